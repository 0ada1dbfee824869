/- Words for the laws' proofs (part 6): contracts of functions, and plain lemmas. -/
import Derived.Deep.RegionHeld3
import Derived.Test.YtlklclebjeeaaaaPb1
import Derived.Test.YtlklclebjeeaaaaPb2
import Derived.Test.YtlklclebjeeaaaaPb3
import Derived.Test.YtlklclebjeeaaaaPb5
section
namespace Go.Proofs.Ytlklclebjeeaaaa.Q
open Go.RowKit Go.Proofs.YtlklclebjeeaaaaW.PrintWords Go.Proofs.YtlklclebjeeaaaaW.PrintLast Go.Proofs.YtlklclebjeeaaaaW.PrintMore
attribute [local go_sem] max2_int min2_int max_two min_two max_three min_three max_four min_four   -- for this text's walks alone
set_option linter.unusedVariables false
set_option linter.unusedSimpArgs false

/-! ### spec_AddBind: function 25 -/
noncomputable def spec_AddBind.j0 : Nat → List (S66) → Int → Bool → Int → ByteArray → Int → List Int → List (S34) → Option ((List (S66)) × Bool)
  | 0, _, _, _, _, _, _, _, _ => none
  | k + 1, x0, x2, x16, x248000, x248001, x248002, x248003, x248004 => if x16 = true then (some ((([] : List (S66))), false)) else ((spec_l3Copy.f k x0).bind fun t253 => ((some (([] : List Int) : List Int)).bind fun y256 => (if y256.length + x248003.length < 17592186044416 then (if t253.length < 2932031007402 then ((some (t253 ++ [(⟨x248001, (y256 ++ x248003), x2⟩ : S66)] : List (S66))).bind fun y262 => ((spec_BindsValid.f k y262).bind fun t265 => (if t265 = true then (some (y262, true)) else (some ((([] : List (S66))), false))))) else (none)) else (none))))
noncomputable def spec_AddBind.f (k : Nat) (l0 : List (S66)) (a1_0 : Int) (a1_1 : ByteArray) (a1_2 : Int) (l1_3 : List Int) (l1_4 : List (S34)) (a2 : Int) : Option ((List (S66)) × Bool) := (spec_BindsValid.f k l0).bind fun t248 => (if t248 = true then ((spec_l3Is.f a1_0 a1_1 a1_2 l1_3 l1_4).bind fun t249 => (spec_AddBind.j0 k l0 a2 (!t249) a1_0 a1_1 a1_2 l1_3 l1_4)) else (spec_AddBind.j0 k l0 a2 true a1_0 a1_1 a1_2 l1_3 l1_4))
theorem spec_AddBind.mono_l : ∀ k, (∀ y0 y1 y2 y3 y4 y5 y6 y7, LeO (spec_AddBind.j0 k y0 y1 y2 y3 y4 y5 y6 y7) (spec_AddBind.j0 (k + 1) y0 y1 y2 y3 y4 y5 y6 y7))
  | 0 => fun _ _ _ _ _ _ _ _ r h => by simp [spec_AddBind.j0] at h
  | k + 1 => by
    have ih0 := spec_AddBind.mono_l k
    · intro y0 y1 y2 y3 y4 y5 y6 y7
      unfold spec_AddBind.j0
      repeat' first
      | (with_reducible exact ih0 _ _ _ _ _ _ _ _)
      | (with_reducible exact spec_BindsValid.mono _ _)
      | (with_reducible exact spec_l3Copy.mono _ _)
      | (with_reducible exact LeO.refl _)
      | (with_reducible exact LeO.none _)
      | (with_reducible refine LeO.ite ?_ ?_)
      | (with_reducible refine LeO.bind ?_ (fun _ => ?_))
      | exact ih0 _ _ _ _ _ _ _ _
      | exact spec_BindsValid.mono _ _
      | exact spec_l3Copy.mono _ _
      | exact LeO.none _
      | refine LeO.ite ?_ ?_
      | refine LeO.bind ?_ (fun _ => ?_)
theorem spec_AddBind.mono : ∀ a0 a1 a2 a3 a4 a5 a6 k, LeO (spec_AddBind.f k a0 a1 a2 a3 a4 a5 a6) (spec_AddBind.f (k + 1) a0 a1 a2 a3 a4 a5 a6) := by
  intro a0 a1 a2 a3 a4 a5 a6 k
  have ih0 := spec_AddBind.mono_l k
  unfold spec_AddBind.f
  repeat' first
      | (with_reducible exact ih0 _ _ _ _ _ _ _ _)
      | (with_reducible exact spec_BindsValid.mono _ _)
      | (with_reducible exact spec_l3Copy.mono _ _)
      | (with_reducible exact LeO.refl _)
      | (with_reducible exact LeO.none _)
      | (with_reducible refine LeO.ite ?_ ?_)
      | (with_reducible refine LeO.bind ?_ (fun _ => ?_))
      | exact ih0 _ _ _ _ _ _ _ _
      | exact spec_BindsValid.mono _ _
      | exact spec_l3Copy.mono _ _
      | exact LeO.none _
      | refine LeO.ite ?_ ?_
      | refine LeO.bind ?_ (fun _ => ?_)
noncomputable def spec_AddBind.T3 : Bool × List (List Nat × List Nat) := (true, [([], []), ([0], [0]), ([], []), ([2], [2]), ([], []), ([], []), ([5], [5]), ([4, 6, 1], [4, 6]), ([], []), ([3, 7, 8], [3, 7, 8]), ([9], [9]), ([1, 10, 7], [1, 10]), ([11, 11, 0, 1, 2, 3, 4, 5, 6, 7, 8, 9, 10, 11], [11])])
noncomputable def spec_AddBind.B3 : List Nat := [0, 1, 0, 4, 0, 0, 32, 115, 0, 511, 1023, 2047, 4095]
theorem spec_AddBind.tab3 : rtab .any (opsOf Try.f25 3) = spec_AddBind.T3 := by kernel_rfl
theorem spec_AddBind.bits3 : waitsOk spec_AddBind.T3.2 spec_AddBind.B3 = true := by kernel_rfl
set_option maxHeartbeats 8000000 in
set_option maxRecDepth 100000 in
theorem spec_AddBind.calls (k : Nat) (A0 : Option Addr) (c0 : Nat) (l0 : List (S66)) (a1_0 : Int) (a1_1 : ByteArray) (a1_2 : Int) (A1_3 : Option Addr) (c1_3 : Nat) (l1_3 : List Int) (A1_4 : Option Addr) (c1_4 : Nat) (l1_4 : List (S34)) (a2 : Int) (r1 : List (S66)) (r2 : Bool) (w : World) (hr0 : Kd.C k66 w A0 l0.length l0) (hc0 : l0.length ≤ c0) (hr1_3 : Kd.C (Kd.int .i64) w A1_3 l1_3.length l1_3) (hc1_3 : l1_3.length ≤ c1_3) (hr1_4 : Kd.C k34 w A1_4 l1_4.length l1_4) (hc1_4 : l1_4.length ≤ c1_4) (h : spec_AddBind.f k l0 a1_0 a1_1 a1_2 l1_3 l1_4 a2 = some (r1, r2)) :
    Calls Try.prog 25 #[.slice A0 l0.length c0, .agg #[.int .i64 a1_0, .string a1_1, .int .i64 a1_2, .slice A1_3 l1_3.length c1_3, .slice A1_4 l1_4.length c1_4], .int .i64 a2] w fun e w' => ∃ v0_ : Value, e = .returned (.tuple #[v0_, .bool r2]) ∧ Kd.S k66 66 w' w.heap.size (fun _ => True) v0_ r1 ∧ Below w.heap.size w w' := by
  have hu34 := Try.underlying34
  have hu66 := Try.underlying66
  have HR0 := Aside0.mk hr0
  have HC0 := Aside0.mk hc0
  clear hr0 hc0
  have HR1_3 := Aside0.mk hr1_3
  have HC1_3 := Aside0.mk hc1_3
  clear hr1_3 hc1_3
  have HR1_4 := Aside0.mk hr1_4
  have HC1_4 := Aside0.mk hc1_4
  clear hr1_4 hc1_4
  have HB := Aside0.mk (Below.refl w.heap.size w)
  have H : ((spec_BindsValid.f k l0).bind fun t248 => (if t248 = true then ((spec_l3Is.f a1_0 a1_1 a1_2 l1_3 l1_4).bind fun t249 => (spec_AddBind.j0 k l0 a2 (!t249) a1_0 a1_1 a1_2 l1_3 l1_4)) else (spec_AddBind.j0 k l0 a2 true a1_0 a1_1 a1_2 l1_3 l1_4))) = some (r1, r2) := h
  clear h
  have HC4 := Aside0.mk H
  clear H
  go_enter Try.func25, Try.ntmps25
  go_upto_region 1 with (first | ((with_reducible refine gate_dst (N := 4) rfl ?_); refine box_event ?hg (N := 4) ?hd (cs := #[.int .i64 a1_0, .string a1_1, .int .i64 a1_2, .slice A1_3 l1_3.length c1_3, .slice A1_4 l1_4.length c1_4]) (t := 34) ?hr ?_; (case hd => rfl); (case hg => rfl); (case hr => first | (go_simp; done) | (go_simp; rfl)); intro gb247 hg w5 hbox hb; have n0_ := Aside0.mk (below_step (by repeat (first | (with_reducible first | exact HB.out | apply below_alloc | apply pw_below_drewN | apply below_drew1) | exact HB.out)) hb); have n1_ := Aside0.mk (hbox); have n2_ := Aside0.mk ((by rw [hg]; exact (below_size (by repeat (first | (with_reducible first | exact HB.out | apply below_alloc | apply pw_below_drewN | apply below_drew1) | exact HB.out))) : w.heap.size ≤ gb247)); have n3_ := Aside0.mk ((by rw [hg]; exact (below_size (by repeat (first | (with_reducible first | exact HB.out | apply below_alloc | apply pw_below_drewN | apply below_drew1) | exact HB.out))) : w.heap.size ≤ gb247)); clear HB; have HB := n0_; have BK247 := n1_; have GW247 := n2_; have GE247 := n3_; clear n0_ n1_ n2_ n3_; clear hb hbox hg))
  (try simp only [Act.put, List.setIfInBounds_toArray, List.set_cons_zero, List.set_cons_succ])
  go_cut [16] (fun v16 wc => ∃ (kq : Nat) (x16_3 : Bool), v16 = .bool x16_3 ∧ Aside0 (spec_AddBind.j0 kq l0 a2 x16_3 a1_0 a1_1 a1_2 l1_3 l1_4 = some (r1, r2)) ∧ Aside0 (kq ≤ k) ∧ Aside0 (wc.heap[gb247]? = some (.cells #[.int .i64 a1_0, .string a1_1, .int .i64 a1_2, (.slice A1_3 l1_3.length c1_3), (.slice A1_4 l1_4.length c1_4)] 34 (0, 0))) ∧ Aside0 (Below w.heap.size w wc))
  case first =>
    have H := HC4.out
    clear HC4
    replace H := Option.bind_eq_some_iff.mp H
    obtain ⟨t248, A60, H⟩ := H
    replace H : (if t248 = true then ((spec_l3Is.f a1_0 a1_1 a1_2 l1_3 l1_4).bind fun t249 => (spec_AddBind.j0 k l0 a2 (!t249) a1_0 a1_1 a1_2 l1_3 l1_4)) else (spec_AddBind.j0 k l0 a2 true a1_0 a1_1 a1_2 l1_3 l1_4)) = some (r1, r2) := H
    have A6 := Aside0.mk A60
    clear A60
    by_cases c7 : t248 = true
    · subst c7
      have H1 : ((spec_l3Is.f a1_0 a1_1 a1_2 l1_3 l1_4).bind fun t249 => (spec_AddBind.j0 k l0 a2 (!t249) a1_0 a1_1 a1_2 l1_3 l1_4)) = some (r1, r2) := by rw [if_pos rfl] at H; exact H
      clear H
      have H := H1
      clear H1
      replace H := Option.bind_eq_some_iff.mp H
      obtain ⟨t249, A80, H⟩ := H
      replace H : (spec_AddBind.j0 k l0 a2 (!t249) a1_0 a1_1 a1_2 l1_3 l1_4) = some (r1, r2) := H
      have A8 := Aside0.mk A80
      clear A80
      have H' := Aside0.mk H
      clear H
      go_wp2_with (first | ((with_reducible refine gate_callee (f := 45) rfl ?_); refine goesL_ (some 10) rfl rfl Try.func45 (by kernel_rfl) rfl #[.slice A0 l0.length c0] rfl (by (try simp only [List.map_toArray, List.map_cons, List.map_nil]); first | done | rfl | (simp only [List.length_drop, List.length_take]; rfl)) ?_; (with_reducible refine (spec_BindsValid.calls k _ _ l0 true _ ?side1 ?side2 A6.out).mono ?_); (case side1 => repeat (first | exact (Kd.C_below HR0.out HB.out) | (with_reducible refine Kd.C_alloc ?_ _) | (with_reducible refine Kd.C_drewN ?_ _) | (with_reducible refine Kd.C_drew ?_))); (case side2 => exact HC0.out); rintro e w9 ⟨rfl, hb⟩; refine ⟨_, rfl, ?_⟩; have n0_ := Aside0.mk (blk_below (g := gb247) (o := .cells #[.int .i64 a1_0, .string a1_1, .int .i64 a1_2, .slice A1_3 l1_3.length c1_3, .slice A1_4 l1_4.length c1_4] 34 (0, 0)) (by (with_reducible repeat (first | refine blk_drewN ?_ _ | refine blk_drew ?_ | refine blk_alloc ?_ _)); exact BK247.out) hb); have n1_ := Aside0.mk (below_step (by repeat (first | (with_reducible first | exact HB.out | apply below_alloc | apply pw_below_drewN | apply below_drew1 | refine below_set ?_ GE247.out) | exact HB.out)) hb); clear BK247; clear HB; have BK247 := n0_; have HB := n1_; clear n0_ n1_; (try clear hb); (try clear hb2); (try clear hk); (try clear hi); have hcz10_0 : w9.cell? ⟨gb247, 0, none⟩ = some (.int .i64 a1_0) := (blk_cell BK247.out 0).trans rfl; have hcz10_1 : w9.cell? ⟨gb247, 1, none⟩ = some (.string a1_1) := (blk_cell BK247.out 1).trans rfl; have hcz10_2 : w9.cell? ⟨gb247, 2, none⟩ = some (.int .i64 a1_2) := (blk_cell BK247.out 2).trans rfl; have hcz10_3 : w9.cell? ⟨gb247, 3, none⟩ = some (.slice A1_3 l1_3.length c1_3) := (blk_cell BK247.out 3).trans rfl; have hcz10_4 : w9.cell? ⟨gb247, 4, none⟩ = some (.slice A1_4 l1_4.length c1_4) := (blk_cell BK247.out 4).trans rfl; have hfz10_0 := blk_frozen BK247.out 0; have hfz10_1 := blk_frozen BK247.out 1; have hfz10_2 := blk_frozen BK247.out 2; have hfz10_3 := blk_frozen BK247.out 3; have hfz10_4 := blk_frozen BK247.out 4) | (go_at_call 46; (with_reducible refine (spec_l3Is.calls a1_0 a1_1 a1_2 _ _ l1_3 _ _ l1_4 t249 _ ?side1 ?side2 ?side3 ?side4 A8.out).mono ?_); (case side1 => repeat (first | exact (Kd.C_below HR1_3.out HB.out) | (with_reducible refine Kd.C_alloc ?_ _) | (with_reducible refine Kd.C_drewN ?_ _) | (with_reducible refine Kd.C_drew ?_))); (case side2 => exact HC1_3.out); (case side3 => repeat (first | exact (Kd.C_below HR1_4.out HB.out) | (with_reducible refine Kd.C_alloc ?_ _) | (with_reducible refine Kd.C_drewN ?_ _) | (with_reducible refine Kd.C_drew ?_))); (case side4 => exact HC1_4.out); rintro e w11 ⟨rfl, hb⟩; have n0_ := Aside0.mk (blk_below (g := gb247) (o := .cells #[.int .i64 a1_0, .string a1_1, .int .i64 a1_2, .slice A1_3 l1_3.length c1_3, .slice A1_4 l1_4.length c1_4] 34 (0, 0)) (by (with_reducible repeat (first | refine blk_drewN ?_ _ | refine blk_drew ?_ | refine blk_alloc ?_ _)); exact BK247.out) hb); have n1_ := Aside0.mk (below_step (by repeat (first | (with_reducible first | exact HB.out | apply below_alloc | apply pw_below_drewN | apply below_drew1 | refine below_set ?_ GE247.out) | exact HB.out)) hb); clear BK247; clear HB; have BK247 := n0_; have HB := n1_; clear n0_ n1_; (try clear hb); (try clear hb2); (try clear hk); (try clear hi)))
      go_meet
      case rel => exact ⟨_, (!t249), (by first | rfl | (simp; done) | (simp [*]; done)), H', ⟨by first | omega | exact Nat.le_refl _⟩, ⟨by (with_reducible repeat (first | refine blk_drewN ?_ _ | refine blk_drew ?_ | refine blk_alloc ?_ _)); exact BK247.out⟩, ⟨by repeat (first | (with_reducible first | exact HB.out | apply below_alloc | apply pw_below_drewN | apply below_drew1 | refine below_set ?_ GE247.out) | exact HB.out)⟩⟩
    · replace c7 := Bool.eq_false_iff.mpr c7
      subst c7
      have H1 : (spec_AddBind.j0 k l0 a2 true a1_0 a1_1 a1_2 l1_3 l1_4) = some (r1, r2) := by rw [if_neg (show ¬ (false = true) by decide)] at H; exact H
      clear H
      have H := H1
      clear H1
      have H' := Aside0.mk H
      clear H
      go_wp2_with (first | ((with_reducible refine gate_callee (f := 45) rfl ?_); refine goesL_ (some 10) rfl rfl Try.func45 (by kernel_rfl) rfl #[.slice A0 l0.length c0] rfl (by (try simp only [List.map_toArray, List.map_cons, List.map_nil]); first | done | rfl | (simp only [List.length_drop, List.length_take]; rfl)) ?_; (with_reducible refine (spec_BindsValid.calls k _ _ l0 false _ ?side1 ?side2 A6.out).mono ?_); (case side1 => repeat (first | exact (Kd.C_below HR0.out HB.out) | (with_reducible refine Kd.C_alloc ?_ _) | (with_reducible refine Kd.C_drewN ?_ _) | (with_reducible refine Kd.C_drew ?_))); (case side2 => exact HC0.out); rintro e w12 ⟨rfl, hb⟩; refine ⟨_, rfl, ?_⟩; have n0_ := Aside0.mk (blk_below (g := gb247) (o := .cells #[.int .i64 a1_0, .string a1_1, .int .i64 a1_2, .slice A1_3 l1_3.length c1_3, .slice A1_4 l1_4.length c1_4] 34 (0, 0)) (by (with_reducible repeat (first | refine blk_drewN ?_ _ | refine blk_drew ?_ | refine blk_alloc ?_ _)); exact BK247.out) hb); have n1_ := Aside0.mk (below_step (by repeat (first | (with_reducible first | exact HB.out | apply below_alloc | apply pw_below_drewN | apply below_drew1 | refine below_set ?_ GE247.out) | exact HB.out)) hb); clear BK247; clear HB; have BK247 := n0_; have HB := n1_; clear n0_ n1_; (try clear hb); (try clear hb2); (try clear hk); (try clear hi)))
      go_meet
      case rel => exact ⟨_, (true), (by first | rfl | (simp; done) | (simp [*]; done)), H', ⟨by first | omega | exact Nat.le_refl _⟩, ⟨by (with_reducible repeat (first | refine blk_drewN ?_ _ | refine blk_drew ?_ | refine blk_alloc ?_ _)); exact BK247.out⟩, ⟨by repeat (first | (with_reducible first | exact HB.out | apply below_alloc | apply pw_below_drewN | apply below_drew1 | refine below_set ?_ GE247.out) | exact HB.out)⟩⟩
  case rest =>
    clear HC4
    try clear c1
    try clear c2
    try clear p2
    try clear c4
    try clear c7
    try clear hcz10_0
    try clear hcz10_1
    try clear hcz10_2
    try clear hcz10_3
    try clear hcz10_4
    try clear hfz10_0
    try clear hfz10_1
    try clear hfz10_2
    try clear hfz10_3
    try clear hfz10_4
    obtain ⟨kq, x16_3, rfl, HA, HJ3, BK247, HB⟩ := hcut
    cases kq with
    | zero => exact absurd HA.out (by simp [spec_AddBind.j0])
    | succ kj3 =>
      have H := HA.out
      clear HA
      simp only [spec_AddBind.j0] at H
      by_cases c13 : x16_3 = true
      · subst c13
        have H1 : (some ((([] : List (S66))), false)) = some (r1, r2) := by rw [if_pos rfl] at H; exact H
        clear H
        have H := H1
        clear H1
        obtain ⟨y250, hy250⟩ : ∃ y_ : List (S66), y_ = (([] : List (S66))) := ⟨_, rfl⟩
        replace H : (some (y250, false)) = some (r1, r2) := by first | (rw [hy250]; with_reducible exact H) | (have H2_ := (Option.bind_some _ _).symm.trans H; rw [hy250]; with_reducible exact H2_) | (have H2_ := (Option.bind_some _ _).symm.trans H; with_reducible exact H2_) | with_reducible exact H | (rw [hy250]; exact H) | exact H
        have Ny250 := Aside0.mk hy250
        clear hy250
        simp only [Option.some.injEq, Prod.mk.injEq] at H
        obtain ⟨rfl, rfl⟩ := H
        go_wp2_with (first | ((with_reducible refine gate_dst (N := 17) rfl ?_); refine Kd.S_lit k66 _ 66 ?hg (N := 17) ?hd (xs := ([] : List (S66))) (inner := []) (ok := fun _ => True) (okp := fun _ => True) ?hr ?hp (fun _ hk => hk) trivial (Below.refl _ _) (Nat.le_refl _) (by simp) ?_; (case hd => rfl); (case hg => rfl); (case hr => first | (go_simp; done) | (go_simp; rfl)); (case hp => exact (Reps.none _ _)); intro v251 w14 ho15 hb hg_ hnew_; clear hg_ hnew_; (first | rw [← Ny250.out] at ho15 | (simp only [Int.reduceToNat] at ho15; rw [← Ny250.out] at ho15)); have n0_ := Aside0.mk (Kd.S_lower ho15 (below_size (by repeat (first | (with_reducible first | exact HB.out | apply below_alloc | apply pw_below_drewN | apply below_drew1 | refine below_set ?_ GE247.out) | exact HB.out)))); have n1_ := Aside0.mk (blk_below (g := gb247) (o := .cells #[.int .i64 a1_0, .string a1_1, .int .i64 a1_2, .slice A1_3 l1_3.length c1_3, .slice A1_4 l1_4.length c1_4] 34 (0, 0)) (by (with_reducible repeat (first | refine blk_drewN ?_ _ | refine blk_drew ?_ | refine blk_alloc ?_ _)); exact BK247.out) hb); have n2_ := Aside0.mk (below_step (by repeat (first | (with_reducible first | exact HB.out | apply below_alloc | apply pw_below_drewN | apply below_drew1 | refine below_set ?_ GE247.out) | exact HB.out)) hb); clear BK247; clear HB; have HO252 := n0_; have BK247 := n1_; have HB := n2_; clear n0_ n1_ n2_; clear hb ho15))
        go_ret2
        exact ⟨_, by first | rfl | (simp [errW_none, errW_some] <;> rfl) | (simp [*, errW_none, errW_some] <;> rfl), by (with_reducible repeat (first | apply Kd.S_alloc | apply Kd.S_drewN | apply Kd.S_drew)); exact HO252.out, by repeat (first | (with_reducible first | exact HB.out | apply below_alloc | apply pw_below_drewN | apply below_drew1 | refine below_set ?_ GE247.out) | exact HB.out)⟩
      · replace c13 := Bool.eq_false_iff.mpr c13
        subst c13
        have H1 : ((spec_l3Copy.f kj3 l0).bind fun t253 => ((some (([] : List Int) : List Int)).bind fun y256 => (if y256.length + l1_3.length < 17592186044416 then (if t253.length < 2932031007402 then ((some (t253 ++ [(⟨a1_1, (y256 ++ l1_3), a2⟩ : S66)] : List (S66))).bind fun y262 => ((spec_BindsValid.f kj3 y262).bind fun t265 => (if t265 = true then (some (y262, true)) else (some ((([] : List (S66))), false))))) else (none)) else (none)))) = some (r1, r2) := by rw [if_neg (show ¬ (false = true) by decide)] at H; exact H
        clear H
        have H := H1
        clear H1
        replace H := Option.bind_eq_some_iff.mp H
        obtain ⟨t253, A160, H⟩ := H
        replace H : ((some (([] : List Int) : List Int)).bind fun y256 => (if y256.length + l1_3.length < 17592186044416 then (if t253.length < 2932031007402 then ((some (t253 ++ [(⟨a1_1, (y256 ++ l1_3), a2⟩ : S66)] : List (S66))).bind fun y262 => ((spec_BindsValid.f kj3 y262).bind fun t265 => (if t265 = true then (some (y262, true)) else (some ((([] : List (S66))), false))))) else (none)) else (none))) = some (r1, r2) := H
        have A16 := Aside0.mk A160
        clear A160
        obtain ⟨y256, hy256⟩ : ∃ y_ : List Int, y_ = (([] : List Int)) := ⟨_, rfl⟩
        replace H : (if y256.length + l1_3.length < 17592186044416 then (if t253.length < 2932031007402 then ((some (t253 ++ [(⟨a1_1, (y256 ++ l1_3), a2⟩ : S66)] : List (S66))).bind fun y262 => ((spec_BindsValid.f kj3 y262).bind fun t265 => (if t265 = true then (some (y262, true)) else (some ((([] : List (S66))), false))))) else (none)) else (none)) = some (r1, r2) := by first | (rw [hy256]; with_reducible exact H) | (have H2_ := (Option.bind_some _ _).symm.trans H; rw [hy256]; with_reducible exact H2_) | (have H2_ := (Option.bind_some _ _).symm.trans H; with_reducible exact H2_) | with_reducible exact H | (rw [hy256]; exact H) | exact H
        have Ny256 := Aside0.mk hy256
        clear hy256
        by_cases c17 : y256.length + l1_3.length < 17592186044416
        · rw [if_pos c17] at H
          have LMc17 := Aside0.mk c17
          clear c17
          obtain ⟨y259, hy259⟩ : ∃ y_ : List Int, y_ = (y256 ++ l1_3) := ⟨_, rfl⟩
          replace H : (if t253.length < 2932031007402 then ((some (t253 ++ [(⟨a1_1, y259, a2⟩ : S66)] : List (S66))).bind fun y262 => ((spec_BindsValid.f kj3 y262).bind fun t265 => (if t265 = true then (some (y262, true)) else (some ((([] : List (S66))), false))))) else (none)) = some (r1, r2) := by first | (rw [hy259]; with_reducible exact H) | (have H2_ := (Option.bind_some _ _).symm.trans H; rw [hy259]; with_reducible exact H2_) | (have H2_ := (Option.bind_some _ _).symm.trans H; with_reducible exact H2_) | with_reducible exact H | (rw [hy259]; exact H) | exact H
          have Ny259 := Aside0.mk hy259
          clear hy259
          by_cases c18 : t253.length < 2932031007402
          · rw [if_pos c18] at H
            have LMc18 := Aside0.mk c18
            clear c18
            obtain ⟨y262, hy262⟩ : ∃ y_ : List (S66), y_ = (t253 ++ [(⟨a1_1, y259, a2⟩ : S66)]) := ⟨_, rfl⟩
            replace H : ((spec_BindsValid.f kj3 y262).bind fun t265 => (if t265 = true then (some (y262, true)) else (some ((([] : List (S66))), false)))) = some (r1, r2) := by first | (rw [hy262]; with_reducible exact H) | (have H2_ := (Option.bind_some _ _).symm.trans H; rw [hy262]; with_reducible exact H2_) | (have H2_ := (Option.bind_some _ _).symm.trans H; with_reducible exact H2_) | with_reducible exact H | (rw [hy262]; exact H) | exact H
            have Ny262 := Aside0.mk hy262
            clear hy262
            replace H := Option.bind_eq_some_iff.mp H
            obtain ⟨t265, A190, H⟩ := H
            replace H : (if t265 = true then (some (y262, true)) else (some ((([] : List (S66))), false))) = some (r1, r2) := H
            have A19 := Aside0.mk A190
            clear A190
            by_cases c20 : t265 = true
            · subst c20
              have H1 : (some (y262, true)) = some (r1, r2) := by rw [if_pos rfl] at H; exact H
              clear H
              have H := H1
              clear H1
              simp only [Option.some.injEq, Prod.mk.injEq] at H
              obtain ⟨rfl, rfl⟩ := H
              try go_wp2
              have n0_ := Aside0.mk (blk_drew BK247.out)
              have n1_ := Aside0.mk (below_drew1 HB.out)
              clear BK247
              clear HB
              have BK247 := n0_
              have HB := n1_
              clear n0_ n1_
              refine start_ (n := 13) (S := fun w' => w'.cell? ⟨gb247, 0, none⟩ = some (.int .i64 a1_0) ∧ w'.cell? ⟨gb247, 1, none⟩ = some (.string a1_1) ∧ w'.cell? ⟨gb247, 2, none⟩ = some (.int .i64 a1_2) ∧ w'.cell? ⟨gb247, 3, none⟩ = some (.slice A1_3 l1_3.length c1_3) ∧ w'.cell? ⟨gb247, 4, none⟩ = some (.slice A1_4 l1_4.length c1_4)) (ds := []) #[false, false, false, false, false, false, false, false, false, false, false, false, false] (by kernel_rfl) rfl rfl ⟨(blk_cell BK247.out 0).trans rfl, (blk_cell BK247.out 1).trans rfl, (blk_cell BK247.out 2).trans rfl, (blk_cell BK247.out 3).trans rfl, (blk_cell BK247.out 4).trans rfl⟩ (fun hHeld => ?_); refine with_tabW spec_AddBind.tab3 spec_AddBind.bits3 (fun HT_ HW_ => ?_)
              generalize wc.drew = w21 at BK247 HB hHeld ⊢
              refine pure_ (i := 0) (N := some 18) (v := ?_) (a' := ?_) #[true, false, false, false, false, false, false, false, false, false, false, false, false] rfl rfl (any_of HT_.out (by kernel_rfl)) (fun _ _ _ h => h) (Or.inl ⟨by rfl, ?_⟩) ?_ ?_
              rotate_left
              · intro w'
                go_simp
                with_reducible rfl
              rotate_left
              · simp only [Act.put, List.setIfInBounds_toArray, List.set_cons_zero, List.set_cons_succ, i64_w, i32_w]
                rfl
              refine pure_ (i := 2) (N := some 20) (v := ?_) (a' := ?_) #[true, false, true, false, false, false, false, false, false, false, false, false, false] rfl rfl (any_of HT_.out (by kernel_rfl)) (fun _ _ _ h => h) (Or.inl ⟨by rfl, ?_⟩) ?_ ?_
              rotate_left
              · intro w'
                go_simp
                with_reducible rfl
              rotate_left
              · simp only [Act.put, List.setIfInBounds_toArray, List.set_cons_zero, List.set_cons_succ, i64_w, i32_w]
                rfl
              refine pure_ (i := 5) (N := some 23) (v := ?_) (a' := ?_) #[true, false, true, false, false, true, false, false, false, false, false, false, false] rfl rfl (any_of HT_.out (by kernel_rfl)) (fun _ _ _ h => h) (Or.inl ⟨by rfl, ?_⟩) ?_ ?_
              rotate_left
              · intro w'
                go_simp
                with_reducible rfl
              rotate_left
              · simp only [Act.put, List.setIfInBounds_toArray, List.set_cons_zero, List.set_cons_succ, i64_w, i32_w]
                rfl
              refine pure_ (i := 8) (N := some 26) (v := ?_) (a' := ?_) #[true, false, true, false, false, true, false, false, true, false, false, false, false] rfl rfl (any_of HT_.out (by kernel_rfl)) (fun _ _ _ h => h) (Or.inl ⟨by rfl, ?_⟩) ?_ ?_
              rotate_left
              · intro w'
                go_simp
                with_reducible rfl
              rotate_left
              · simp only [Act.put, List.setIfInBounds_toArray, List.set_cons_zero, List.set_cons_succ, i64_w, i32_w]
                rfl
              refine take_ (i := 3) (N := some 21) (v := ?_) (a' := ?_) #[true, false, true, true, false, true, false, false, true, false, false, false, false] rfl rfl (take_ofW HT_.out HW_.out (by kernel_rfl)) (fun _ _ _ h => h) (Or.inl ⟨by rfl, ?_⟩) hHeld ?_ ?_
              rotate_left
              · rintro w' ⟨s0, s1, s2, s3, s4⟩
                go_simp
                with_reducible rfl
              rotate_left
              · simp only [Act.put, List.setIfInBounds_toArray, List.set_cons_zero, List.set_cons_succ, i64_w, i32_w]
                rfl
              refine take_ (i := 6) (N := some 24) (v := ?_) (a' := ?_) #[true, false, true, true, false, true, true, false, true, false, false, false, false] rfl rfl (take_ofW HT_.out HW_.out (by kernel_rfl)) (fun _ _ _ h => h) (Or.inl ⟨by rfl, ?_⟩) hHeld ?_ ?_
              rotate_left
              · rintro w' ⟨s0, s1, s2, s3, s4⟩
                go_simp
                with_reducible rfl
              rotate_left
              · simp only [Act.put, List.setIfInBounds_toArray, List.set_cons_zero, List.set_cons_succ, i64_w, i32_w]
                rfl
              refine join_ (σ := Value × Value) 5 #[true, true, true, true, true, true, true, false, true, false, false, false, false] (fun s_ => [(19, s_.1), (22, s_.2)]) (fun s_ w' => (w'.cell? ⟨gb247, 0, none⟩ = some (.int .i64 a1_0) ∧ w'.cell? ⟨gb247, 1, none⟩ = some (.string a1_1) ∧ w'.cell? ⟨gb247, 2, none⟩ = some (.int .i64 a1_2) ∧ w'.cell? ⟨gb247, 3, none⟩ = some (.slice A1_3 l1_3.length c1_3) ∧ w'.cell? ⟨gb247, 4, none⟩ = some (.slice A1_4 l1_4.length c1_4)) ∧ (Kd.S k66 66 w' w.heap.size (fun k_ => some k_ ≠ (s_.2 : Value).ownBlock) s_.1 t253) ∧ (Kd.R (Kd.int .i64) 3 w' w.heap.size (fun _ => True) s_.2 y256) ∧ (w'.heap[gb247]? = some (.cells #[.int .i64 a1_0, .string a1_1, .int .i64 a1_2, .slice A1_3 l1_3.length c1_3, .slice A1_4 l1_4.length c1_4] 34 (0, 0))) ∧ (Below w.heap.size w w')) ?_ ?_
              rotate_left
              · intro hCont
                refine two_ (i := 1) (j := 4) (Ni := some 19) (Nj := some 22) #[true, true, true, true, false, true, true, false, true, false, false, false, false] #[true, false, true, true, true, true, true, false, true, false, false, false, false] rfl rfl rfl rfl (two_of HT_.out (by kernel_rfl)) (by decide) (by decide) (fun K hK => ?_) (fun K hK => ?_)
                · skip
                  refine goes_ Try.func59 (by kernel_rfl) rfl #[.slice A0 l0.length c0] (by rfl) rfl rfl (by (try simp only [List.map_toArray, List.map_cons, List.map_nil]); first | done | rfl | (simp only [List.length_drop, List.length_take]; rfl)) ?_
                  with_reducible refine (spec_l3Copy.calls kj3 _ _ l0 t253 _ ?side1 ?side2 A16.out).mono ?_
                  (case side1 => repeat (first | exact (Kd.C_below HR0.out HB.out) | (with_reducible refine Kd.C_alloc ?_ _) | (with_reducible refine Kd.C_drewN ?_ _) | (with_reducible refine Kd.C_drew ?_)))
                  (case side2 => exact HC0.out)
                  rintro e w22 ⟨v254, rfl, ho0, hb⟩
                  refine ⟨_, rfl, ?_⟩
                  have n0_ := Aside0.mk (Kd.S_lower ho0 (below_size (by repeat (first | (with_reducible first | exact HB.out | apply below_alloc | apply pw_below_drewN | apply below_drew1 | refine below_set ?_ GE247.out) | exact HB.out))))
                  have n1_ := Aside0.mk (blk_below (g := gb247) (o := .cells #[.int .i64 a1_0, .string a1_1, .int .i64 a1_2, .slice A1_3 l1_3.length c1_3, .slice A1_4 l1_4.length c1_4] 34 (0, 0)) (by (with_reducible repeat (first | refine blk_drewN ?_ _ | refine blk_drew ?_ | refine blk_alloc ?_ _)); exact BK247.out) hb)
                  have n2_ := Aside0.mk (below_step (by repeat (first | (with_reducible first | exact HB.out | apply below_alloc | apply pw_below_drewN | apply below_drew1 | refine below_set ?_ GE247.out) | exact HB.out)) hb)
                  clear BK247
                  clear HB
                  have HO255 := n0_
                  have BK247 := n1_
                  have HB := n2_
                  clear n0_ n1_ n2_
                  (try clear hb)
                  (try clear hb2)
                  (try clear hk)
                  (try clear hi)
                  (try clear ho0)
                  refine hK.out _ _ ⟨(blk_cell BK247.out 0).trans rfl, (blk_cell BK247.out 1).trans rfl, (blk_cell BK247.out 2).trans rfl, (blk_cell BK247.out 3).trans rfl, (blk_cell BK247.out 4).trans rfl⟩ (fun hHeld => ?_)
                  clear hK K
                  refine norm_ (a' := ?_) ?_ ?_
                  rotate_left
                  · show Act.put _ (some 19) _ = _
                    simp only [Act.put, List.setIfInBounds_toArray, List.set_cons_zero, List.set_cons_succ, i64_w, i32_w]
                    rfl
                  refine one_ (i := 4) (N := some 22) #[true, true, true, true, true, true, true, false, true, false, false, false, false] rfl rfl (one_of HT_.out (by kernel_rfl)) (by decide) (fun K hK => ?_)
                  refine Kd.R_lit_step (Kd.int .i64) _ 3 ?hg (N := 22) ?hd (xs := ([] : List Int)) (inner := []) (ok := fun _ => True) (okp := fun _ => True) ?hr ?hp (fun _ hk => hk) trivial (Below.refl _ _) (Nat.le_refl _) (by simp) ?_; (case hd => rfl); (case hg => rfl); (case hr => first | (go_simp; done) | (go_simp; rfl)); (case hp => exact (Reps.none _ _))
                  intro v257 w23 ho24 hb hg_ hnew_
                  clear hg_ hnew_
                  (first | rw [← Ny256.out] at ho24 | (simp only [Int.reduceToNat] at ho24; rw [← Ny256.out] at ho24))
                  have n0_ := Aside0.mk (Kd.S_elder' (by (with_reducible repeat (first | apply Kd.S_alloc | apply Kd.S_drewN | apply Kd.S_drew)); exact HO255.out) (Kd.R_base ho24) hb)
                  have n1_ := Aside0.mk (Kd.R_lower ho24 (below_size (by repeat (first | (with_reducible first | exact HB.out | apply below_alloc | apply pw_below_drewN | apply below_drew1 | refine below_set ?_ GE247.out) | exact HB.out))))
                  have n2_ := Aside0.mk (blk_below (g := gb247) (o := .cells #[.int .i64 a1_0, .string a1_1, .int .i64 a1_2, .slice A1_3 l1_3.length c1_3, .slice A1_4 l1_4.length c1_4] 34 (0, 0)) (by (with_reducible repeat (first | refine blk_drewN ?_ _ | refine blk_drew ?_ | refine blk_alloc ?_ _)); exact BK247.out) hb)
                  have n3_ := Aside0.mk (below_step (by repeat (first | (with_reducible first | exact HB.out | apply below_alloc | apply pw_below_drewN | apply below_drew1 | refine below_set ?_ GE247.out) | exact HB.out)) hb)
                  clear HO255
                  clear BK247
                  clear HB
                  have HO255 := n0_
                  have HO258 := n1_
                  have BK247 := n2_
                  have HB := n3_
                  clear n0_ n1_ n2_ n3_
                  clear hb ho24
                  refine hK.out _ _ ⟨(blk_cell BK247.out 0).trans rfl, (blk_cell BK247.out 1).trans rfl, (blk_cell BK247.out 2).trans rfl, (blk_cell BK247.out 3).trans rfl, (blk_cell BK247.out 4).trans rfl⟩ (fun hHeld => ?_)
                  clear hK K
                  refine norm_ (a' := ?_) ?_ ?_
                  rotate_left
                  · show Act.put _ (some 22) _ = _
                    simp only [Act.put, List.setIfInBounds_toArray, List.set_cons_zero, List.set_cons_succ, i64_w, i32_w]
                    rfl
                  exact norm_ (by simp only [putAll, Act.put, List.setIfInBounds_toArray, List.set_cons_zero, List.set_cons_succ]) (hCont (v254, v257) _ ⟨hHeld, (by (with_reducible repeat (first | apply Kd.S_alloc | apply Kd.S_drewN | apply Kd.S_drew)); exact Kd.S_mono HO255.out (fun _ hk => hk.2)), (by (with_reducible repeat (first | apply Kd.R_alloc | apply Kd.R_drewN | apply Kd.R_drew)); exact HO258.out), (by (with_reducible repeat (first | refine blk_drewN ?_ _ | refine blk_drew ?_ | refine blk_alloc ?_ _)); exact BK247.out), (by repeat (first | (with_reducible first | exact HB.out | apply below_alloc | apply pw_below_drewN | apply below_drew1 | refine below_set ?_ GE247.out) | exact HB.out))⟩)
                · skip
                  refine Kd.R_lit_step (Kd.int .i64) _ 3 ?hg (N := 22) ?hd (xs := ([] : List Int)) (inner := []) (ok := fun _ => True) (okp := fun _ => True) ?hr ?hp (fun _ hk => hk) trivial (Below.refl _ _) (Nat.le_refl _) (by simp) ?_; (case hd => rfl); (case hg => rfl); (case hr => first | (go_simp; done) | (go_simp; rfl)); (case hp => exact (Reps.none _ _))
                  intro v257 w22 ho23 hb hg_ hnew_
                  clear hg_ hnew_
                  (first | rw [← Ny256.out] at ho23 | (simp only [Int.reduceToNat] at ho23; rw [← Ny256.out] at ho23))
                  have n0_ := Aside0.mk (Kd.R_lower ho23 (below_size (by repeat (first | (with_reducible first | exact HB.out | apply below_alloc | apply pw_below_drewN | apply below_drew1 | refine below_set ?_ GE247.out) | exact HB.out))))
                  have n1_ := Aside0.mk (blk_below (g := gb247) (o := .cells #[.int .i64 a1_0, .string a1_1, .int .i64 a1_2, .slice A1_3 l1_3.length c1_3, .slice A1_4 l1_4.length c1_4] 34 (0, 0)) (by (with_reducible repeat (first | refine blk_drewN ?_ _ | refine blk_drew ?_ | refine blk_alloc ?_ _)); exact BK247.out) hb)
                  have n2_ := Aside0.mk (below_step (by repeat (first | (with_reducible first | exact HB.out | apply below_alloc | apply pw_below_drewN | apply below_drew1 | refine below_set ?_ GE247.out) | exact HB.out)) hb)
                  clear BK247
                  clear HB
                  have HO258 := n0_
                  have BK247 := n1_
                  have HB := n2_
                  clear n0_ n1_ n2_
                  clear hb ho23
                  refine hK.out _ _ ⟨(blk_cell BK247.out 0).trans rfl, (blk_cell BK247.out 1).trans rfl, (blk_cell BK247.out 2).trans rfl, (blk_cell BK247.out 3).trans rfl, (blk_cell BK247.out 4).trans rfl⟩ (fun hHeld => ?_)
                  clear hK K
                  refine norm_ (a' := ?_) ?_ ?_
                  rotate_left
                  · show Act.put _ (some 22) _ = _
                    simp only [Act.put, List.setIfInBounds_toArray, List.set_cons_zero, List.set_cons_succ, i64_w, i32_w]
                    rfl
                  refine one_ (i := 1) (N := some 19) #[true, true, true, true, true, true, true, false, true, false, false, false, false] rfl rfl (one_of HT_.out (by kernel_rfl)) (by decide) (fun K hK => ?_)
                  refine goes_ Try.func59 (by kernel_rfl) rfl #[.slice A0 l0.length c0] (by rfl) rfl rfl (by (try simp only [List.map_toArray, List.map_cons, List.map_nil]); first | done | rfl | (simp only [List.length_drop, List.length_take]; rfl)) ?_
                  with_reducible refine (spec_l3Copy.calls kj3 _ _ l0 t253 _ ?side1 ?side2 A16.out).mono ?_
                  (case side1 => repeat (first | exact (Kd.C_below HR0.out HB.out) | (with_reducible refine Kd.C_alloc ?_ _) | (with_reducible refine Kd.C_drewN ?_ _) | (with_reducible refine Kd.C_drew ?_)))
                  (case side2 => exact HC0.out)
                  rintro e w24 ⟨v254, rfl, ho0, hb⟩
                  refine ⟨_, rfl, ?_⟩
                  have n0_ := Aside0.mk (Kd.R_below (by (with_reducible repeat (first | apply Kd.R_alloc | apply Kd.R_drewN | apply Kd.R_drew)); exact HO258.out) hb)
                  have n1_ := Aside0.mk (Kd.S_lower (Kd.S_new' ho0 (Kd.R_lt (by (with_reducible repeat (first | apply Kd.R_alloc | apply Kd.R_drewN | apply Kd.R_drew)); exact HO258.out))) (below_size (by repeat (first | (with_reducible first | exact HB.out | apply below_alloc | apply pw_below_drewN | apply below_drew1 | refine below_set ?_ GE247.out) | exact HB.out))))
                  have n2_ := Aside0.mk (blk_below (g := gb247) (o := .cells #[.int .i64 a1_0, .string a1_1, .int .i64 a1_2, .slice A1_3 l1_3.length c1_3, .slice A1_4 l1_4.length c1_4] 34 (0, 0)) (by (with_reducible repeat (first | refine blk_drewN ?_ _ | refine blk_drew ?_ | refine blk_alloc ?_ _)); exact BK247.out) hb)
                  have n3_ := Aside0.mk (below_step (by repeat (first | (with_reducible first | exact HB.out | apply below_alloc | apply pw_below_drewN | apply below_drew1 | refine below_set ?_ GE247.out) | exact HB.out)) hb)
                  clear HO258
                  clear BK247
                  clear HB
                  have HO258 := n0_
                  have HO255 := n1_
                  have BK247 := n2_
                  have HB := n3_
                  clear n0_ n1_ n2_ n3_
                  (try clear hb)
                  (try clear hb2)
                  (try clear hk)
                  (try clear hi)
                  (try clear ho0)
                  refine hK.out _ _ ⟨(blk_cell BK247.out 0).trans rfl, (blk_cell BK247.out 1).trans rfl, (blk_cell BK247.out 2).trans rfl, (blk_cell BK247.out 3).trans rfl, (blk_cell BK247.out 4).trans rfl⟩ (fun hHeld => ?_)
                  clear hK K
                  refine norm_ (a' := ?_) ?_ ?_
                  rotate_left
                  · show Act.put _ (some 19) _ = _
                    simp only [Act.put, List.setIfInBounds_toArray, List.set_cons_zero, List.set_cons_succ, i64_w, i32_w]
                    rfl
                  exact norm_ (by simp only [putAll, Act.put, List.setIfInBounds_toArray, List.set_cons_zero, List.set_cons_succ]) (hCont (v254, v257) _ ⟨hHeld, (by (with_reducible repeat (first | apply Kd.S_alloc | apply Kd.S_drewN | apply Kd.S_drew)); exact Kd.S_mono HO255.out (fun _ hk => hk.2)), (by (with_reducible repeat (first | apply Kd.R_alloc | apply Kd.R_drewN | apply Kd.R_drew)); exact HO258.out), (by (with_reducible repeat (first | refine blk_drewN ?_ _ | refine blk_drew ?_ | refine blk_alloc ?_ _)); exact BK247.out), (by repeat (first | (with_reducible first | exact HB.out | apply below_alloc | apply pw_below_drewN | apply below_drew1 | refine below_set ?_ GE247.out) | exact HB.out))⟩)
              rintro ⟨v254, v257⟩ w25 ⟨hS_, h0_, h1_, h2_, h3_⟩
              have n0_ : Aside0 (Kd.S k66 66 w25 w.heap.size (fun k_ => some k_ ≠ (v257 : Value).ownBlock) v254 t253) := ⟨h0_⟩
              have n1_ : Aside0 (Kd.R (Kd.int .i64) 3 w25 w.heap.size (fun _ => True) v257 y256) := ⟨h1_⟩
              have n2_ : Aside0 (w25.heap[gb247]? = some (.cells #[.int .i64 a1_0, .string a1_1, .int .i64 a1_2, .slice A1_3 l1_3.length c1_3, .slice A1_4 l1_4.length c1_4] 34 (0, 0))) := ⟨h2_⟩
              have n3_ : Aside0 (Below w.heap.size w w25) := ⟨h3_⟩
              clear BK247
              clear HB
              clear h0_ h1_ h2_ h3_
              have HO255 := n0_
              have HO258 := n1_
              have BK247 := n2_
              have HB := n3_
              clear n0_ n1_ n2_ n3_
              have hHeld : w25.cell? ⟨gb247, 0, none⟩ = some (.int .i64 a1_0) ∧ w25.cell? ⟨gb247, 1, none⟩ = some (.string a1_1) ∧ w25.cell? ⟨gb247, 2, none⟩ = some (.int .i64 a1_2) ∧ w25.cell? ⟨gb247, 3, none⟩ = some (.slice A1_3 l1_3.length c1_3) ∧ w25.cell? ⟨gb247, 4, none⟩ = some (.slice A1_4 l1_4.length c1_4) := hS_
              refine norm_ (a' := ?_) ?_ ?_
              rotate_left
              · simp only [putAll, Act.put, List.setIfInBounds_toArray, List.set_cons_zero, List.set_cons_succ]
                rfl
              refine one_ (i := 7) (N := some 25) #[true, true, true, true, true, true, true, true, true, false, false, false, false] rfl rfl (one_of HT_.out (by kernel_rfl)) (by decide) (fun K hK => ?_)
              refine Kd.R_append_rows_step (Kd.int .i64) (w0 := w) w.heap.size (by rfl) (.tmp 22) (.tmp 24) 23 3 (.int .i64 0) 8 rfl Try.underlying23 info3 rfl (by decide) (by omega) v257 y256 l1_3 _ _ _ (fun _ => True) (fun _ => False) rfl rfl ?aO ?aR (fun _ _ h => h) (fun _ h => h.elim) ?aF ?aB ?aS ?aL ?_
              (case aR => repeat (first | exact (Kd.C_below HR1_3.out HB.out) | (with_reducible refine Kd.C_alloc ?_ _) | (with_reducible refine Kd.C_drewN ?_ _) | (with_reducible refine Kd.C_drew ?_)))
              (case aB => exact (by repeat (first | (with_reducible first | exact HB.out | apply below_alloc | apply pw_below_drewN | apply below_drew1 | refine below_set ?_ GE247.out) | exact HB.out)))
              (case aF => exact (fun _ _ => trivial))
              (case aO => exact (by (with_reducible repeat (first | apply Kd.R_alloc | apply Kd.R_drewN | apply Kd.R_drew)); exact HO258.out))
              (case aS => exact (below_size (by repeat (first | (with_reducible first | exact HB.out | apply below_alloc | apply pw_below_drewN | apply below_drew1 | refine below_set ?_ GE247.out) | exact HB.out))))
              (case aL => have := LMc17.out; omega)
              intro v260 w26 ho hb hg hat
              rw [← Ny259.out] at ho
              have n0_ := Aside0.mk (blk_grown (g := gb247) (o := .cells #[.int .i64 a1_0, .string a1_1, .int .i64 a1_2, .slice A1_3 l1_3.length c1_3, .slice A1_4 l1_4.length c1_4] 34 (0, 0)) (by (with_reducible repeat (first | refine blk_drewN ?_ _ | refine blk_drew ?_ | refine blk_alloc ?_ _)); exact BK247.out) hg (Kd.R_ne HO258.out BK247.out (by decide)))
              have n1_ := Aside0.mk (Kd.S_after (ok := (fun _ => True)) (by (with_reducible repeat (first | apply Kd.S_alloc | apply Kd.S_drewN | apply Kd.S_drew)); exact Kd.S_mono HO255.out (fun _ hk => ⟨trivial, hk⟩)) hg hat)
              have n2_ := Aside0.mk (hb)
              have n3_ := Aside0.mk (ho)
              clear BK247
              clear HO255
              clear HB
              clear HO258
              have BK247 := n0_
              have HO255 := n1_
              have HB := n2_
              have HO261 := n3_
              clear n0_ n1_ n2_ n3_
              clear ho hb hg hat
              obtain ⟨Ao27, co27, eo27⟩ := Kd.R_slice HO261.out
              (first | subst eo27 | (injection eo27 with f1_ f2_ f3_; have f4_ := f1_.symm; have f5_ := f3_.symm; clear f1_ f2_ f3_; subst f4_; subst f5_))
              refine hK.out _ _ ⟨(blk_cell BK247.out 0).trans rfl, (blk_cell BK247.out 1).trans rfl, (blk_cell BK247.out 2).trans rfl, (blk_cell BK247.out 3).trans rfl, (blk_cell BK247.out 4).trans rfl⟩ (fun hHeld => ?_)
              clear hK K
              refine norm_ (a' := ?_) ?_ ?_
              rotate_left
              · show Act.put _ (some 25) _ = _
                simp only [Act.put, List.setIfInBounds_toArray, List.set_cons_zero, List.set_cons_succ, i64_w, i32_w]
                rfl
              refine pure_ (i := 9) (N := some 27) (v := ?_) (a' := ?_) #[true, true, true, true, true, true, true, true, true, true, false, false, false] rfl rfl (any_of HT_.out (by kernel_rfl)) (fun _ _ _ h => h) (Or.inl ⟨by rfl, ?_⟩) ?_ ?_
              rotate_left
              · intro w'
                go_simp
                with_reducible rfl
              rotate_left
              · simp only [Act.put, List.setIfInBounds_toArray, List.set_cons_zero, List.set_cons_succ, i64_w, i32_w]
                rfl
              refine one_ (i := 10) (N := some 28) #[true, true, true, true, true, true, true, true, true, true, true, false, false] rfl rfl (one_of HT_.out (by kernel_rfl)) (by decide) (fun K hK => ?_)
              refine value_ (w1 := ?_) (v := ?_) (by rfl) rfl ?_ ?_
              rotate_left 2
              · go_simp
                constructor
                · rfl
                · rfl
              refine hK.out _ _ ⟨(blk_cell (blk_alloc BK247.out _) 0).trans rfl, (blk_cell (blk_alloc BK247.out _) 1).trans rfl, (blk_cell (blk_alloc BK247.out _) 2).trans rfl, (blk_cell (blk_alloc BK247.out _) 3).trans rfl, (blk_cell (blk_alloc BK247.out _) 4).trans rfl⟩ (fun hHeld => ?_)
              clear hK K
              refine norm_ (a' := ?_) ?_ ?_
              rotate_left
              · show Act.put _ (some 28) _ = _
                simp only [Act.put, List.setIfInBounds_toArray, List.set_cons_zero, List.set_cons_succ, i64_w, i32_w]
                rfl
              refine one_ (i := 11) (N := some 29) #[true, true, true, true, true, true, true, true, true, true, true, true, false] rfl rfl (one_of HT_.out (by kernel_rfl)) (by decide) (fun K hK => ?_)
              refine Kd.S_append_step k66 (w0 := w) w.heap.size (by rfl) (.tmp 19) (.tmp 28) 30 66 (.agg #[(.string ⟨#[]⟩), (.slice none 0 0), (.int .i64 0)]) 48 rfl Try.underlying30 info66 rfl (by decide) (by omega) v254 t253 (⟨a1_1, y259, a2⟩ : S66) [.string a1_1, .slice Ao27 y259.length co27, .int .i64 a2] (fun _ => True) (fun k_ => some k_ = (.slice Ao27 y259.length co27 : Value).ownBlock) rfl rfl ?aP (fun k_ hk_ => ((Kd.R_mono (ok' := fun k_ => ((fun _ => True)) k_ ∧ some k_ ≠ (v254 : Value).ownBlock) (Kd.R_apart' (HO261.out) (Kd.S_typed HO255.out) (by decide)) (fun k_ hk => ⟨trivial, hk.2⟩))).1 k_ hk_.symm) ?aF ?aO ?aB ?aS ?aL ?_
              (case aP => exact k66_mkM _ _ _ (⟨a1_1, y259, a2⟩ : S66) (Kd.R_mono (Kd.R_tight rfl (Kd.R_mono (ok' := fun k_ => ((fun _ => True)) k_ ∧ some k_ ≠ (v254 : Value).ownBlock) (Kd.R_apart' (HO261.out) (Kd.S_typed HO255.out) (by decide)) (fun k_ hk => ⟨trivial, hk.2⟩))) (fun _ h_ => h_)))
              (case aB => exact (by repeat (first | (with_reducible first | exact HB.out | apply below_alloc | apply pw_below_drewN | apply below_drew1 | refine below_set ?_ GE247.out) | exact HB.out)))
              (case aF => exact (fun _ _ => trivial))
              (case aO => exact (by (with_reducible repeat (first | apply Kd.S_alloc | apply Kd.S_drewN | apply Kd.S_drew)); exact Kd.S_mono HO255.out (fun k_ hk => ⟨trivial, fun e_ => hk.2 e_⟩)))
              (case aS => exact (below_size (by repeat (first | (with_reducible first | exact HB.out | apply below_alloc | apply pw_below_drewN | apply below_drew1 | refine below_set ?_ GE247.out) | exact HB.out))))
              (case aL => have := LMc18.out; omega)
              intro v263 w28 ho hb hg hat
              rw [← Ny262.out] at ho
              have n0_ := Aside0.mk (blk_grown (g := gb247) (o := .cells #[.int .i64 a1_0, .string a1_1, .int .i64 a1_2, .slice A1_3 l1_3.length c1_3, .slice A1_4 l1_4.length c1_4] 34 (0, 0)) (by (with_reducible repeat (first | refine blk_drewN ?_ _ | refine blk_drew ?_ | refine blk_alloc ?_ _)); exact BK247.out) hg (Kd.S_ne HO255.out BK247.out (by decide)))
              have n1_ := Aside0.mk (hb)
              have n2_ := Aside0.mk (ho)
              clear BK247
              clear HB
              clear HO255
              clear HO261
              have BK247 := n0_
              have HB := n1_
              have HO264 := n2_
              clear n0_ n1_ n2_
              clear ho hb hg hat
              refine hK.out _ _ ⟨(blk_cell BK247.out 0).trans rfl, (blk_cell BK247.out 1).trans rfl, (blk_cell BK247.out 2).trans rfl, (blk_cell BK247.out 3).trans rfl, (blk_cell BK247.out 4).trans rfl⟩ (fun hHeld => ?_)
              clear hK K
              refine norm_ (a' := ?_) ?_ ?_
              rotate_left
              · show Act.put _ (some 29) _ = _
                simp only [Act.put, List.setIfInBounds_toArray, List.set_cons_zero, List.set_cons_succ, i64_w, i32_w]
                rfl
              refine pure_ (i := 12) (N := some 8) (v := ?_) (a' := ?_) #[true, true, true, true, true, true, true, true, true, true, true, true, true] rfl rfl (any_of HT_.out (by kernel_rfl)) (fun _ _ _ h => h) (Or.inl ⟨by rfl, ?_⟩) ?_ ?_
              rotate_left
              · intro w'
                go_simp
                with_reducible rfl
              rotate_left
              · simp only [Act.put, List.setIfInBounds_toArray, List.set_cons_zero, List.set_cons_succ, i64_w, i32_w]
                rfl
              refine done_ (done_of HT_.out (by kernel_rfl)) ?_
              obtain ⟨Ao29, co29, eo29⟩ := Kd.S_slice HO264.out
              subst eo29
              try go_wp2_with (first | ((with_reducible refine gate_callee (f := 45) rfl ?_); refine goesL_ (some 31) rfl rfl Try.func45 (by kernel_rfl) rfl #[.slice Ao29 y262.length co29] rfl (by (try simp only [List.map_toArray, List.map_cons, List.map_nil]); first | done | rfl | (simp only [List.length_drop, List.length_take]; rfl)) ?_; (with_reducible refine (spec_BindsValid.calls kj3 _ _ y262 true _ ?side1 ?side2 A19.out).mono ?_); (case side1 => repeat (first | exact (Kd.S_reads' HO264.out).2.2 | (with_reducible refine Kd.C_alloc ?_ _) | (with_reducible refine Kd.C_drewN ?_ _) | (with_reducible refine Kd.C_drew ?_))); (case side2 => exact (Kd.S_reads' HO264.out).2.1); rintro e w30 ⟨rfl, hb⟩; refine ⟨_, rfl, ?_⟩; have n0_ := Aside0.mk (Kd.S_below (by (with_reducible repeat (first | apply Kd.S_alloc | apply Kd.S_drewN | apply Kd.S_drew)); exact HO264.out) hb); have n1_ := Aside0.mk (blk_below (g := gb247) (o := .cells #[.int .i64 a1_0, .string a1_1, .int .i64 a1_2, .slice A1_3 l1_3.length c1_3, .slice A1_4 l1_4.length c1_4] 34 (0, 0)) (by (with_reducible repeat (first | refine blk_drewN ?_ _ | refine blk_drew ?_ | refine blk_alloc ?_ _)); exact BK247.out) hb); have n2_ := Aside0.mk (below_step (by repeat (first | (with_reducible first | exact HB.out | apply below_alloc | apply pw_below_drewN | apply below_drew1 | refine below_set ?_ GE247.out) | exact HB.out)) hb); clear HO264; clear BK247; clear HB; have HO264 := n0_; have BK247 := n1_; have HB := n2_; clear n0_ n1_ n2_; (try clear hb); (try clear hb2); (try clear hk); (try clear hi)))
              go_ret2
              exact ⟨_, by first | rfl | (simp [errW_none, errW_some] <;> rfl) | (simp [*, errW_none, errW_some] <;> rfl), by (with_reducible repeat (first | apply Kd.S_alloc | apply Kd.S_drewN | apply Kd.S_drew)); exact HO264.out, by repeat (first | (with_reducible first | exact HB.out | apply below_alloc | apply pw_below_drewN | apply below_drew1 | refine below_set ?_ GE247.out) | exact HB.out)⟩
            · replace c20 := Bool.eq_false_iff.mpr c20
              subst c20
              have H1 : (some ((([] : List (S66))), false)) = some (r1, r2) := by rw [if_neg (show ¬ (false = true) by decide)] at H; exact H
              clear H
              have H := H1
              clear H1
              obtain ⟨y266, hy266⟩ : ∃ y_ : List (S66), y_ = (([] : List (S66))) := ⟨_, rfl⟩
              replace H : (some (y266, false)) = some (r1, r2) := by first | (rw [hy266]; with_reducible exact H) | (have H2_ := (Option.bind_some _ _).symm.trans H; rw [hy266]; with_reducible exact H2_) | (have H2_ := (Option.bind_some _ _).symm.trans H; with_reducible exact H2_) | with_reducible exact H | (rw [hy266]; exact H) | exact H
              have Ny266 := Aside0.mk hy266
              clear hy266
              simp only [Option.some.injEq, Prod.mk.injEq] at H
              obtain ⟨rfl, rfl⟩ := H
              try go_wp2
              have n0_ := Aside0.mk (blk_drew BK247.out)
              have n1_ := Aside0.mk (below_drew1 HB.out)
              clear BK247
              clear HB
              have BK247 := n0_
              have HB := n1_
              clear n0_ n1_
              refine start_ (n := 13) (S := fun w' => w'.cell? ⟨gb247, 0, none⟩ = some (.int .i64 a1_0) ∧ w'.cell? ⟨gb247, 1, none⟩ = some (.string a1_1) ∧ w'.cell? ⟨gb247, 2, none⟩ = some (.int .i64 a1_2) ∧ w'.cell? ⟨gb247, 3, none⟩ = some (.slice A1_3 l1_3.length c1_3) ∧ w'.cell? ⟨gb247, 4, none⟩ = some (.slice A1_4 l1_4.length c1_4)) (ds := []) #[false, false, false, false, false, false, false, false, false, false, false, false, false] (by kernel_rfl) rfl rfl ⟨(blk_cell BK247.out 0).trans rfl, (blk_cell BK247.out 1).trans rfl, (blk_cell BK247.out 2).trans rfl, (blk_cell BK247.out 3).trans rfl, (blk_cell BK247.out 4).trans rfl⟩ (fun hHeld => ?_); refine with_tabW spec_AddBind.tab3 spec_AddBind.bits3 (fun HT_ HW_ => ?_)
              generalize wc.drew = w31 at BK247 HB hHeld ⊢
              refine pure_ (i := 0) (N := some 18) (v := ?_) (a' := ?_) #[true, false, false, false, false, false, false, false, false, false, false, false, false] rfl rfl (any_of HT_.out (by kernel_rfl)) (fun _ _ _ h => h) (Or.inl ⟨by rfl, ?_⟩) ?_ ?_
              rotate_left
              · intro w'
                go_simp
                with_reducible rfl
              rotate_left
              · simp only [Act.put, List.setIfInBounds_toArray, List.set_cons_zero, List.set_cons_succ, i64_w, i32_w]
                rfl
              refine pure_ (i := 2) (N := some 20) (v := ?_) (a' := ?_) #[true, false, true, false, false, false, false, false, false, false, false, false, false] rfl rfl (any_of HT_.out (by kernel_rfl)) (fun _ _ _ h => h) (Or.inl ⟨by rfl, ?_⟩) ?_ ?_
              rotate_left
              · intro w'
                go_simp
                with_reducible rfl
              rotate_left
              · simp only [Act.put, List.setIfInBounds_toArray, List.set_cons_zero, List.set_cons_succ, i64_w, i32_w]
                rfl
              refine pure_ (i := 5) (N := some 23) (v := ?_) (a' := ?_) #[true, false, true, false, false, true, false, false, false, false, false, false, false] rfl rfl (any_of HT_.out (by kernel_rfl)) (fun _ _ _ h => h) (Or.inl ⟨by rfl, ?_⟩) ?_ ?_
              rotate_left
              · intro w'
                go_simp
                with_reducible rfl
              rotate_left
              · simp only [Act.put, List.setIfInBounds_toArray, List.set_cons_zero, List.set_cons_succ, i64_w, i32_w]
                rfl
              refine pure_ (i := 8) (N := some 26) (v := ?_) (a' := ?_) #[true, false, true, false, false, true, false, false, true, false, false, false, false] rfl rfl (any_of HT_.out (by kernel_rfl)) (fun _ _ _ h => h) (Or.inl ⟨by rfl, ?_⟩) ?_ ?_
              rotate_left
              · intro w'
                go_simp
                with_reducible rfl
              rotate_left
              · simp only [Act.put, List.setIfInBounds_toArray, List.set_cons_zero, List.set_cons_succ, i64_w, i32_w]
                rfl
              refine take_ (i := 3) (N := some 21) (v := ?_) (a' := ?_) #[true, false, true, true, false, true, false, false, true, false, false, false, false] rfl rfl (take_ofW HT_.out HW_.out (by kernel_rfl)) (fun _ _ _ h => h) (Or.inl ⟨by rfl, ?_⟩) hHeld ?_ ?_
              rotate_left
              · rintro w' ⟨s0, s1, s2, s3, s4⟩
                go_simp
                with_reducible rfl
              rotate_left
              · simp only [Act.put, List.setIfInBounds_toArray, List.set_cons_zero, List.set_cons_succ, i64_w, i32_w]
                rfl
              refine take_ (i := 6) (N := some 24) (v := ?_) (a' := ?_) #[true, false, true, true, false, true, true, false, true, false, false, false, false] rfl rfl (take_ofW HT_.out HW_.out (by kernel_rfl)) (fun _ _ _ h => h) (Or.inl ⟨by rfl, ?_⟩) hHeld ?_ ?_
              rotate_left
              · rintro w' ⟨s0, s1, s2, s3, s4⟩
                go_simp
                with_reducible rfl
              rotate_left
              · simp only [Act.put, List.setIfInBounds_toArray, List.set_cons_zero, List.set_cons_succ, i64_w, i32_w]
                rfl
              refine join_ (σ := Value × Value) 5 #[true, true, true, true, true, true, true, false, true, false, false, false, false] (fun s_ => [(19, s_.1), (22, s_.2)]) (fun s_ w' => (w'.cell? ⟨gb247, 0, none⟩ = some (.int .i64 a1_0) ∧ w'.cell? ⟨gb247, 1, none⟩ = some (.string a1_1) ∧ w'.cell? ⟨gb247, 2, none⟩ = some (.int .i64 a1_2) ∧ w'.cell? ⟨gb247, 3, none⟩ = some (.slice A1_3 l1_3.length c1_3) ∧ w'.cell? ⟨gb247, 4, none⟩ = some (.slice A1_4 l1_4.length c1_4)) ∧ (Kd.S k66 66 w' w.heap.size (fun k_ => some k_ ≠ (s_.2 : Value).ownBlock) s_.1 t253) ∧ (Kd.R (Kd.int .i64) 3 w' w.heap.size (fun _ => True) s_.2 y256) ∧ (w'.heap[gb247]? = some (.cells #[.int .i64 a1_0, .string a1_1, .int .i64 a1_2, .slice A1_3 l1_3.length c1_3, .slice A1_4 l1_4.length c1_4] 34 (0, 0))) ∧ (Below w.heap.size w w')) ?_ ?_
              rotate_left
              · intro hCont
                refine two_ (i := 1) (j := 4) (Ni := some 19) (Nj := some 22) #[true, true, true, true, false, true, true, false, true, false, false, false, false] #[true, false, true, true, true, true, true, false, true, false, false, false, false] rfl rfl rfl rfl (two_of HT_.out (by kernel_rfl)) (by decide) (by decide) (fun K hK => ?_) (fun K hK => ?_)
                · skip
                  refine goes_ Try.func59 (by kernel_rfl) rfl #[.slice A0 l0.length c0] (by rfl) rfl rfl (by (try simp only [List.map_toArray, List.map_cons, List.map_nil]); first | done | rfl | (simp only [List.length_drop, List.length_take]; rfl)) ?_
                  with_reducible refine (spec_l3Copy.calls kj3 _ _ l0 t253 _ ?side1 ?side2 A16.out).mono ?_
                  (case side1 => repeat (first | exact (Kd.C_below HR0.out HB.out) | (with_reducible refine Kd.C_alloc ?_ _) | (with_reducible refine Kd.C_drewN ?_ _) | (with_reducible refine Kd.C_drew ?_)))
                  (case side2 => exact HC0.out)
                  rintro e w32 ⟨v254, rfl, ho0, hb⟩
                  refine ⟨_, rfl, ?_⟩
                  have n0_ := Aside0.mk (Kd.S_lower ho0 (below_size (by repeat (first | (with_reducible first | exact HB.out | apply below_alloc | apply pw_below_drewN | apply below_drew1 | refine below_set ?_ GE247.out) | exact HB.out))))
                  have n1_ := Aside0.mk (blk_below (g := gb247) (o := .cells #[.int .i64 a1_0, .string a1_1, .int .i64 a1_2, .slice A1_3 l1_3.length c1_3, .slice A1_4 l1_4.length c1_4] 34 (0, 0)) (by (with_reducible repeat (first | refine blk_drewN ?_ _ | refine blk_drew ?_ | refine blk_alloc ?_ _)); exact BK247.out) hb)
                  have n2_ := Aside0.mk (below_step (by repeat (first | (with_reducible first | exact HB.out | apply below_alloc | apply pw_below_drewN | apply below_drew1 | refine below_set ?_ GE247.out) | exact HB.out)) hb)
                  clear BK247
                  clear HB
                  have HO255 := n0_
                  have BK247 := n1_
                  have HB := n2_
                  clear n0_ n1_ n2_
                  (try clear hb)
                  (try clear hb2)
                  (try clear hk)
                  (try clear hi)
                  (try clear ho0)
                  refine hK.out _ _ ⟨(blk_cell BK247.out 0).trans rfl, (blk_cell BK247.out 1).trans rfl, (blk_cell BK247.out 2).trans rfl, (blk_cell BK247.out 3).trans rfl, (blk_cell BK247.out 4).trans rfl⟩ (fun hHeld => ?_)
                  clear hK K
                  refine norm_ (a' := ?_) ?_ ?_
                  rotate_left
                  · show Act.put _ (some 19) _ = _
                    simp only [Act.put, List.setIfInBounds_toArray, List.set_cons_zero, List.set_cons_succ, i64_w, i32_w]
                    rfl
                  refine one_ (i := 4) (N := some 22) #[true, true, true, true, true, true, true, false, true, false, false, false, false] rfl rfl (one_of HT_.out (by kernel_rfl)) (by decide) (fun K hK => ?_)
                  refine Kd.R_lit_step (Kd.int .i64) _ 3 ?hg (N := 22) ?hd (xs := ([] : List Int)) (inner := []) (ok := fun _ => True) (okp := fun _ => True) ?hr ?hp (fun _ hk => hk) trivial (Below.refl _ _) (Nat.le_refl _) (by simp) ?_; (case hd => rfl); (case hg => rfl); (case hr => first | (go_simp; done) | (go_simp; rfl)); (case hp => exact (Reps.none _ _))
                  intro v257 w33 ho34 hb hg_ hnew_
                  clear hg_ hnew_
                  (first | rw [← Ny256.out] at ho34 | (simp only [Int.reduceToNat] at ho34; rw [← Ny256.out] at ho34))
                  have n0_ := Aside0.mk (Kd.S_elder' (by (with_reducible repeat (first | apply Kd.S_alloc | apply Kd.S_drewN | apply Kd.S_drew)); exact HO255.out) (Kd.R_base ho34) hb)
                  have n1_ := Aside0.mk (Kd.R_lower ho34 (below_size (by repeat (first | (with_reducible first | exact HB.out | apply below_alloc | apply pw_below_drewN | apply below_drew1 | refine below_set ?_ GE247.out) | exact HB.out))))
                  have n2_ := Aside0.mk (blk_below (g := gb247) (o := .cells #[.int .i64 a1_0, .string a1_1, .int .i64 a1_2, .slice A1_3 l1_3.length c1_3, .slice A1_4 l1_4.length c1_4] 34 (0, 0)) (by (with_reducible repeat (first | refine blk_drewN ?_ _ | refine blk_drew ?_ | refine blk_alloc ?_ _)); exact BK247.out) hb)
                  have n3_ := Aside0.mk (below_step (by repeat (first | (with_reducible first | exact HB.out | apply below_alloc | apply pw_below_drewN | apply below_drew1 | refine below_set ?_ GE247.out) | exact HB.out)) hb)
                  clear HO255
                  clear BK247
                  clear HB
                  have HO255 := n0_
                  have HO258 := n1_
                  have BK247 := n2_
                  have HB := n3_
                  clear n0_ n1_ n2_ n3_
                  clear hb ho34
                  refine hK.out _ _ ⟨(blk_cell BK247.out 0).trans rfl, (blk_cell BK247.out 1).trans rfl, (blk_cell BK247.out 2).trans rfl, (blk_cell BK247.out 3).trans rfl, (blk_cell BK247.out 4).trans rfl⟩ (fun hHeld => ?_)
                  clear hK K
                  refine norm_ (a' := ?_) ?_ ?_
                  rotate_left
                  · show Act.put _ (some 22) _ = _
                    simp only [Act.put, List.setIfInBounds_toArray, List.set_cons_zero, List.set_cons_succ, i64_w, i32_w]
                    rfl
                  exact norm_ (by simp only [putAll, Act.put, List.setIfInBounds_toArray, List.set_cons_zero, List.set_cons_succ]) (hCont (v254, v257) _ ⟨hHeld, (by (with_reducible repeat (first | apply Kd.S_alloc | apply Kd.S_drewN | apply Kd.S_drew)); exact Kd.S_mono HO255.out (fun _ hk => hk.2)), (by (with_reducible repeat (first | apply Kd.R_alloc | apply Kd.R_drewN | apply Kd.R_drew)); exact HO258.out), (by (with_reducible repeat (first | refine blk_drewN ?_ _ | refine blk_drew ?_ | refine blk_alloc ?_ _)); exact BK247.out), (by repeat (first | (with_reducible first | exact HB.out | apply below_alloc | apply pw_below_drewN | apply below_drew1 | refine below_set ?_ GE247.out) | exact HB.out))⟩)
                · skip
                  refine Kd.R_lit_step (Kd.int .i64) _ 3 ?hg (N := 22) ?hd (xs := ([] : List Int)) (inner := []) (ok := fun _ => True) (okp := fun _ => True) ?hr ?hp (fun _ hk => hk) trivial (Below.refl _ _) (Nat.le_refl _) (by simp) ?_; (case hd => rfl); (case hg => rfl); (case hr => first | (go_simp; done) | (go_simp; rfl)); (case hp => exact (Reps.none _ _))
                  intro v257 w32 ho33 hb hg_ hnew_
                  clear hg_ hnew_
                  (first | rw [← Ny256.out] at ho33 | (simp only [Int.reduceToNat] at ho33; rw [← Ny256.out] at ho33))
                  have n0_ := Aside0.mk (Kd.R_lower ho33 (below_size (by repeat (first | (with_reducible first | exact HB.out | apply below_alloc | apply pw_below_drewN | apply below_drew1 | refine below_set ?_ GE247.out) | exact HB.out))))
                  have n1_ := Aside0.mk (blk_below (g := gb247) (o := .cells #[.int .i64 a1_0, .string a1_1, .int .i64 a1_2, .slice A1_3 l1_3.length c1_3, .slice A1_4 l1_4.length c1_4] 34 (0, 0)) (by (with_reducible repeat (first | refine blk_drewN ?_ _ | refine blk_drew ?_ | refine blk_alloc ?_ _)); exact BK247.out) hb)
                  have n2_ := Aside0.mk (below_step (by repeat (first | (with_reducible first | exact HB.out | apply below_alloc | apply pw_below_drewN | apply below_drew1 | refine below_set ?_ GE247.out) | exact HB.out)) hb)
                  clear BK247
                  clear HB
                  have HO258 := n0_
                  have BK247 := n1_
                  have HB := n2_
                  clear n0_ n1_ n2_
                  clear hb ho33
                  refine hK.out _ _ ⟨(blk_cell BK247.out 0).trans rfl, (blk_cell BK247.out 1).trans rfl, (blk_cell BK247.out 2).trans rfl, (blk_cell BK247.out 3).trans rfl, (blk_cell BK247.out 4).trans rfl⟩ (fun hHeld => ?_)
                  clear hK K
                  refine norm_ (a' := ?_) ?_ ?_
                  rotate_left
                  · show Act.put _ (some 22) _ = _
                    simp only [Act.put, List.setIfInBounds_toArray, List.set_cons_zero, List.set_cons_succ, i64_w, i32_w]
                    rfl
                  refine one_ (i := 1) (N := some 19) #[true, true, true, true, true, true, true, false, true, false, false, false, false] rfl rfl (one_of HT_.out (by kernel_rfl)) (by decide) (fun K hK => ?_)
                  refine goes_ Try.func59 (by kernel_rfl) rfl #[.slice A0 l0.length c0] (by rfl) rfl rfl (by (try simp only [List.map_toArray, List.map_cons, List.map_nil]); first | done | rfl | (simp only [List.length_drop, List.length_take]; rfl)) ?_
                  with_reducible refine (spec_l3Copy.calls kj3 _ _ l0 t253 _ ?side1 ?side2 A16.out).mono ?_
                  (case side1 => repeat (first | exact (Kd.C_below HR0.out HB.out) | (with_reducible refine Kd.C_alloc ?_ _) | (with_reducible refine Kd.C_drewN ?_ _) | (with_reducible refine Kd.C_drew ?_)))
                  (case side2 => exact HC0.out)
                  rintro e w34 ⟨v254, rfl, ho0, hb⟩
                  refine ⟨_, rfl, ?_⟩
                  have n0_ := Aside0.mk (Kd.R_below (by (with_reducible repeat (first | apply Kd.R_alloc | apply Kd.R_drewN | apply Kd.R_drew)); exact HO258.out) hb)
                  have n1_ := Aside0.mk (Kd.S_lower (Kd.S_new' ho0 (Kd.R_lt (by (with_reducible repeat (first | apply Kd.R_alloc | apply Kd.R_drewN | apply Kd.R_drew)); exact HO258.out))) (below_size (by repeat (first | (with_reducible first | exact HB.out | apply below_alloc | apply pw_below_drewN | apply below_drew1 | refine below_set ?_ GE247.out) | exact HB.out))))
                  have n2_ := Aside0.mk (blk_below (g := gb247) (o := .cells #[.int .i64 a1_0, .string a1_1, .int .i64 a1_2, .slice A1_3 l1_3.length c1_3, .slice A1_4 l1_4.length c1_4] 34 (0, 0)) (by (with_reducible repeat (first | refine blk_drewN ?_ _ | refine blk_drew ?_ | refine blk_alloc ?_ _)); exact BK247.out) hb)
                  have n3_ := Aside0.mk (below_step (by repeat (first | (with_reducible first | exact HB.out | apply below_alloc | apply pw_below_drewN | apply below_drew1 | refine below_set ?_ GE247.out) | exact HB.out)) hb)
                  clear HO258
                  clear BK247
                  clear HB
                  have HO258 := n0_
                  have HO255 := n1_
                  have BK247 := n2_
                  have HB := n3_
                  clear n0_ n1_ n2_ n3_
                  (try clear hb)
                  (try clear hb2)
                  (try clear hk)
                  (try clear hi)
                  (try clear ho0)
                  refine hK.out _ _ ⟨(blk_cell BK247.out 0).trans rfl, (blk_cell BK247.out 1).trans rfl, (blk_cell BK247.out 2).trans rfl, (blk_cell BK247.out 3).trans rfl, (blk_cell BK247.out 4).trans rfl⟩ (fun hHeld => ?_)
                  clear hK K
                  refine norm_ (a' := ?_) ?_ ?_
                  rotate_left
                  · show Act.put _ (some 19) _ = _
                    simp only [Act.put, List.setIfInBounds_toArray, List.set_cons_zero, List.set_cons_succ, i64_w, i32_w]
                    rfl
                  exact norm_ (by simp only [putAll, Act.put, List.setIfInBounds_toArray, List.set_cons_zero, List.set_cons_succ]) (hCont (v254, v257) _ ⟨hHeld, (by (with_reducible repeat (first | apply Kd.S_alloc | apply Kd.S_drewN | apply Kd.S_drew)); exact Kd.S_mono HO255.out (fun _ hk => hk.2)), (by (with_reducible repeat (first | apply Kd.R_alloc | apply Kd.R_drewN | apply Kd.R_drew)); exact HO258.out), (by (with_reducible repeat (first | refine blk_drewN ?_ _ | refine blk_drew ?_ | refine blk_alloc ?_ _)); exact BK247.out), (by repeat (first | (with_reducible first | exact HB.out | apply below_alloc | apply pw_below_drewN | apply below_drew1 | refine below_set ?_ GE247.out) | exact HB.out))⟩)
              rintro ⟨v254, v257⟩ w35 ⟨hS_, h0_, h1_, h2_, h3_⟩
              have n0_ : Aside0 (Kd.S k66 66 w35 w.heap.size (fun k_ => some k_ ≠ (v257 : Value).ownBlock) v254 t253) := ⟨h0_⟩
              have n1_ : Aside0 (Kd.R (Kd.int .i64) 3 w35 w.heap.size (fun _ => True) v257 y256) := ⟨h1_⟩
              have n2_ : Aside0 (w35.heap[gb247]? = some (.cells #[.int .i64 a1_0, .string a1_1, .int .i64 a1_2, .slice A1_3 l1_3.length c1_3, .slice A1_4 l1_4.length c1_4] 34 (0, 0))) := ⟨h2_⟩
              have n3_ : Aside0 (Below w.heap.size w w35) := ⟨h3_⟩
              clear BK247
              clear HB
              clear h0_ h1_ h2_ h3_
              have HO255 := n0_
              have HO258 := n1_
              have BK247 := n2_
              have HB := n3_
              clear n0_ n1_ n2_ n3_
              have hHeld : w35.cell? ⟨gb247, 0, none⟩ = some (.int .i64 a1_0) ∧ w35.cell? ⟨gb247, 1, none⟩ = some (.string a1_1) ∧ w35.cell? ⟨gb247, 2, none⟩ = some (.int .i64 a1_2) ∧ w35.cell? ⟨gb247, 3, none⟩ = some (.slice A1_3 l1_3.length c1_3) ∧ w35.cell? ⟨gb247, 4, none⟩ = some (.slice A1_4 l1_4.length c1_4) := hS_
              refine norm_ (a' := ?_) ?_ ?_
              rotate_left
              · simp only [putAll, Act.put, List.setIfInBounds_toArray, List.set_cons_zero, List.set_cons_succ]
                rfl
              refine one_ (i := 7) (N := some 25) #[true, true, true, true, true, true, true, true, true, false, false, false, false] rfl rfl (one_of HT_.out (by kernel_rfl)) (by decide) (fun K hK => ?_)
              refine Kd.R_append_rows_step (Kd.int .i64) (w0 := w) w.heap.size (by rfl) (.tmp 22) (.tmp 24) 23 3 (.int .i64 0) 8 rfl Try.underlying23 info3 rfl (by decide) (by omega) v257 y256 l1_3 _ _ _ (fun _ => True) (fun _ => False) rfl rfl ?aO ?aR (fun _ _ h => h) (fun _ h => h.elim) ?aF ?aB ?aS ?aL ?_
              (case aR => repeat (first | exact (Kd.C_below HR1_3.out HB.out) | (with_reducible refine Kd.C_alloc ?_ _) | (with_reducible refine Kd.C_drewN ?_ _) | (with_reducible refine Kd.C_drew ?_)))
              (case aB => exact (by repeat (first | (with_reducible first | exact HB.out | apply below_alloc | apply pw_below_drewN | apply below_drew1 | refine below_set ?_ GE247.out) | exact HB.out)))
              (case aF => exact (fun _ _ => trivial))
              (case aO => exact (by (with_reducible repeat (first | apply Kd.R_alloc | apply Kd.R_drewN | apply Kd.R_drew)); exact HO258.out))
              (case aS => exact (below_size (by repeat (first | (with_reducible first | exact HB.out | apply below_alloc | apply pw_below_drewN | apply below_drew1 | refine below_set ?_ GE247.out) | exact HB.out))))
              (case aL => have := LMc17.out; omega)
              intro v260 w36 ho hb hg hat
              rw [← Ny259.out] at ho
              have n0_ := Aside0.mk (blk_grown (g := gb247) (o := .cells #[.int .i64 a1_0, .string a1_1, .int .i64 a1_2, .slice A1_3 l1_3.length c1_3, .slice A1_4 l1_4.length c1_4] 34 (0, 0)) (by (with_reducible repeat (first | refine blk_drewN ?_ _ | refine blk_drew ?_ | refine blk_alloc ?_ _)); exact BK247.out) hg (Kd.R_ne HO258.out BK247.out (by decide)))
              have n1_ := Aside0.mk (Kd.S_after (ok := (fun _ => True)) (by (with_reducible repeat (first | apply Kd.S_alloc | apply Kd.S_drewN | apply Kd.S_drew)); exact Kd.S_mono HO255.out (fun _ hk => ⟨trivial, hk⟩)) hg hat)
              have n2_ := Aside0.mk (hb)
              have n3_ := Aside0.mk (ho)
              clear BK247
              clear HO255
              clear HB
              clear HO258
              have BK247 := n0_
              have HO255 := n1_
              have HB := n2_
              have HO261 := n3_
              clear n0_ n1_ n2_ n3_
              clear ho hb hg hat
              obtain ⟨Ao37, co37, eo37⟩ := Kd.R_slice HO261.out
              (first | subst eo37 | (injection eo37 with f1_ f2_ f3_; have f4_ := f1_.symm; have f5_ := f3_.symm; clear f1_ f2_ f3_; subst f4_; subst f5_))
              refine hK.out _ _ ⟨(blk_cell BK247.out 0).trans rfl, (blk_cell BK247.out 1).trans rfl, (blk_cell BK247.out 2).trans rfl, (blk_cell BK247.out 3).trans rfl, (blk_cell BK247.out 4).trans rfl⟩ (fun hHeld => ?_)
              clear hK K
              refine norm_ (a' := ?_) ?_ ?_
              rotate_left
              · show Act.put _ (some 25) _ = _
                simp only [Act.put, List.setIfInBounds_toArray, List.set_cons_zero, List.set_cons_succ, i64_w, i32_w]
                rfl
              refine pure_ (i := 9) (N := some 27) (v := ?_) (a' := ?_) #[true, true, true, true, true, true, true, true, true, true, false, false, false] rfl rfl (any_of HT_.out (by kernel_rfl)) (fun _ _ _ h => h) (Or.inl ⟨by rfl, ?_⟩) ?_ ?_
              rotate_left
              · intro w'
                go_simp
                with_reducible rfl
              rotate_left
              · simp only [Act.put, List.setIfInBounds_toArray, List.set_cons_zero, List.set_cons_succ, i64_w, i32_w]
                rfl
              refine one_ (i := 10) (N := some 28) #[true, true, true, true, true, true, true, true, true, true, true, false, false] rfl rfl (one_of HT_.out (by kernel_rfl)) (by decide) (fun K hK => ?_)
              refine value_ (w1 := ?_) (v := ?_) (by rfl) rfl ?_ ?_
              rotate_left 2
              · go_simp
                constructor
                · rfl
                · rfl
              refine hK.out _ _ ⟨(blk_cell (blk_alloc BK247.out _) 0).trans rfl, (blk_cell (blk_alloc BK247.out _) 1).trans rfl, (blk_cell (blk_alloc BK247.out _) 2).trans rfl, (blk_cell (blk_alloc BK247.out _) 3).trans rfl, (blk_cell (blk_alloc BK247.out _) 4).trans rfl⟩ (fun hHeld => ?_)
              clear hK K
              refine norm_ (a' := ?_) ?_ ?_
              rotate_left
              · show Act.put _ (some 28) _ = _
                simp only [Act.put, List.setIfInBounds_toArray, List.set_cons_zero, List.set_cons_succ, i64_w, i32_w]
                rfl
              refine one_ (i := 11) (N := some 29) #[true, true, true, true, true, true, true, true, true, true, true, true, false] rfl rfl (one_of HT_.out (by kernel_rfl)) (by decide) (fun K hK => ?_)
              refine Kd.S_append_step k66 (w0 := w) w.heap.size (by rfl) (.tmp 19) (.tmp 28) 30 66 (.agg #[(.string ⟨#[]⟩), (.slice none 0 0), (.int .i64 0)]) 48 rfl Try.underlying30 info66 rfl (by decide) (by omega) v254 t253 (⟨a1_1, y259, a2⟩ : S66) [.string a1_1, .slice Ao37 y259.length co37, .int .i64 a2] (fun _ => True) (fun k_ => some k_ = (.slice Ao37 y259.length co37 : Value).ownBlock) rfl rfl ?aP (fun k_ hk_ => ((Kd.R_mono (ok' := fun k_ => ((fun _ => True)) k_ ∧ some k_ ≠ (v254 : Value).ownBlock) (Kd.R_apart' (HO261.out) (Kd.S_typed HO255.out) (by decide)) (fun k_ hk => ⟨trivial, hk.2⟩))).1 k_ hk_.symm) ?aF ?aO ?aB ?aS ?aL ?_
              (case aP => exact k66_mkM _ _ _ (⟨a1_1, y259, a2⟩ : S66) (Kd.R_mono (Kd.R_tight rfl (Kd.R_mono (ok' := fun k_ => ((fun _ => True)) k_ ∧ some k_ ≠ (v254 : Value).ownBlock) (Kd.R_apart' (HO261.out) (Kd.S_typed HO255.out) (by decide)) (fun k_ hk => ⟨trivial, hk.2⟩))) (fun _ h_ => h_)))
              (case aB => exact (by repeat (first | (with_reducible first | exact HB.out | apply below_alloc | apply pw_below_drewN | apply below_drew1 | refine below_set ?_ GE247.out) | exact HB.out)))
              (case aF => exact (fun _ _ => trivial))
              (case aO => exact (by (with_reducible repeat (first | apply Kd.S_alloc | apply Kd.S_drewN | apply Kd.S_drew)); exact Kd.S_mono HO255.out (fun k_ hk => ⟨trivial, fun e_ => hk.2 e_⟩)))
              (case aS => exact (below_size (by repeat (first | (with_reducible first | exact HB.out | apply below_alloc | apply pw_below_drewN | apply below_drew1 | refine below_set ?_ GE247.out) | exact HB.out))))
              (case aL => have := LMc18.out; omega)
              intro v263 w38 ho hb hg hat
              rw [← Ny262.out] at ho
              have n0_ := Aside0.mk (blk_grown (g := gb247) (o := .cells #[.int .i64 a1_0, .string a1_1, .int .i64 a1_2, .slice A1_3 l1_3.length c1_3, .slice A1_4 l1_4.length c1_4] 34 (0, 0)) (by (with_reducible repeat (first | refine blk_drewN ?_ _ | refine blk_drew ?_ | refine blk_alloc ?_ _)); exact BK247.out) hg (Kd.S_ne HO255.out BK247.out (by decide)))
              have n1_ := Aside0.mk (hb)
              have n2_ := Aside0.mk (ho)
              clear BK247
              clear HB
              clear HO255
              clear HO261
              have BK247 := n0_
              have HB := n1_
              have HO264 := n2_
              clear n0_ n1_ n2_
              clear ho hb hg hat
              refine hK.out _ _ ⟨(blk_cell BK247.out 0).trans rfl, (blk_cell BK247.out 1).trans rfl, (blk_cell BK247.out 2).trans rfl, (blk_cell BK247.out 3).trans rfl, (blk_cell BK247.out 4).trans rfl⟩ (fun hHeld => ?_)
              clear hK K
              refine norm_ (a' := ?_) ?_ ?_
              rotate_left
              · show Act.put _ (some 29) _ = _
                simp only [Act.put, List.setIfInBounds_toArray, List.set_cons_zero, List.set_cons_succ, i64_w, i32_w]
                rfl
              refine pure_ (i := 12) (N := some 8) (v := ?_) (a' := ?_) #[true, true, true, true, true, true, true, true, true, true, true, true, true] rfl rfl (any_of HT_.out (by kernel_rfl)) (fun _ _ _ h => h) (Or.inl ⟨by rfl, ?_⟩) ?_ ?_
              rotate_left
              · intro w'
                go_simp
                with_reducible rfl
              rotate_left
              · simp only [Act.put, List.setIfInBounds_toArray, List.set_cons_zero, List.set_cons_succ, i64_w, i32_w]
                rfl
              refine done_ (done_of HT_.out (by kernel_rfl)) ?_
              obtain ⟨Ao39, co39, eo39⟩ := Kd.S_slice HO264.out
              subst eo39
              try go_wp2_with (first | ((with_reducible refine gate_callee (f := 45) rfl ?_); refine goesL_ (some 31) rfl rfl Try.func45 (by kernel_rfl) rfl #[.slice Ao39 y262.length co39] rfl (by (try simp only [List.map_toArray, List.map_cons, List.map_nil]); first | done | rfl | (simp only [List.length_drop, List.length_take]; rfl)) ?_; (with_reducible refine (spec_BindsValid.calls kj3 _ _ y262 false _ ?side1 ?side2 A19.out).mono ?_); (case side1 => repeat (first | exact (Kd.S_reads' HO264.out).2.2 | (with_reducible refine Kd.C_alloc ?_ _) | (with_reducible refine Kd.C_drewN ?_ _) | (with_reducible refine Kd.C_drew ?_))); (case side2 => exact (Kd.S_reads' HO264.out).2.1); rintro e w40 ⟨rfl, hb⟩; refine ⟨_, rfl, ?_⟩; have n0_ := Aside0.mk (Kd.S_below (by (with_reducible repeat (first | apply Kd.S_alloc | apply Kd.S_drewN | apply Kd.S_drew)); exact HO264.out) hb); have n1_ := Aside0.mk (blk_below (g := gb247) (o := .cells #[.int .i64 a1_0, .string a1_1, .int .i64 a1_2, .slice A1_3 l1_3.length c1_3, .slice A1_4 l1_4.length c1_4] 34 (0, 0)) (by (with_reducible repeat (first | refine blk_drewN ?_ _ | refine blk_drew ?_ | refine blk_alloc ?_ _)); exact BK247.out) hb); have n2_ := Aside0.mk (below_step (by repeat (first | (with_reducible first | exact HB.out | apply below_alloc | apply pw_below_drewN | apply below_drew1 | refine below_set ?_ GE247.out) | exact HB.out)) hb); clear HO264; clear BK247; clear HB; have HO264 := n0_; have BK247 := n1_; have HB := n2_; clear n0_ n1_ n2_; (try clear hb); (try clear hb2); (try clear hk); (try clear hi)) | ((with_reducible refine gate_dst (N := 33) rfl ?_); refine Kd.S_lit k66 _ 66 ?hg (N := 33) ?hd (xs := ([] : List (S66))) (inner := []) (ok := fun _ => True) (okp := fun _ => True) ?hr ?hp (fun _ hk => hk) trivial (Below.refl _ _) (Nat.le_refl _) (by simp) ?_; (case hd => rfl); (case hg => rfl); (case hr => first | (go_simp; done) | (go_simp; rfl)); (case hp => exact (Reps.none _ _)); intro v267 w41 ho42 hb hg_ hnew_; clear hg_ hnew_; (first | rw [← Ny266.out] at ho42 | (simp only [Int.reduceToNat] at ho42; rw [← Ny266.out] at ho42)); have n0_ := Aside0.mk (Kd.S_elder' (by (with_reducible repeat (first | apply Kd.S_alloc | apply Kd.S_drewN | apply Kd.S_drew)); exact HO264.out) (Kd.S_base ho42) hb); have n1_ := Aside0.mk (Kd.S_lower (Kd.S_new' ho42 (Kd.S_lt (by (with_reducible repeat (first | apply Kd.S_alloc | apply Kd.S_drewN | apply Kd.S_drew)); exact HO264.out))) (below_size (by repeat (first | (with_reducible first | exact HB.out | apply below_alloc | apply pw_below_drewN | apply below_drew1 | refine below_set ?_ GE247.out) | exact HB.out)))); have n2_ := Aside0.mk (blk_below (g := gb247) (o := .cells #[.int .i64 a1_0, .string a1_1, .int .i64 a1_2, .slice A1_3 l1_3.length c1_3, .slice A1_4 l1_4.length c1_4] 34 (0, 0)) (by (with_reducible repeat (first | refine blk_drewN ?_ _ | refine blk_drew ?_ | refine blk_alloc ?_ _)); exact BK247.out) hb); have n3_ := Aside0.mk (below_step (by repeat (first | (with_reducible first | exact HB.out | apply below_alloc | apply pw_below_drewN | apply below_drew1 | refine below_set ?_ GE247.out) | exact HB.out)) hb); clear HO264; clear BK247; clear HB; have HO264 := n0_; have HO268 := n1_; have BK247 := n2_; have HB := n3_; clear n0_ n1_ n2_ n3_; clear hb ho42))
              go_ret2
              exact ⟨_, by first | rfl | (simp [errW_none, errW_some] <;> rfl) | (simp [*, errW_none, errW_some] <;> rfl), by (with_reducible repeat (first | apply Kd.S_alloc | apply Kd.S_drewN | apply Kd.S_drew)); exact Kd.S_mono HO268.out (fun _ hk => trivial), by repeat (first | (with_reducible first | exact HB.out | apply below_alloc | apply pw_below_drewN | apply below_drew1 | refine below_set ?_ GE247.out) | exact HB.out)⟩
          · rw [if_neg c18] at H
            exact absurd H (by simp)
        · rw [if_neg c17] at H
          exact absurd H (by simp)

/-! ### impl_copyBinds: function 60 -/
noncomputable def impl_copyBinds.l0 : Nat → List (S66) → List (S66) → Int → Int → Option ((List (S66)))
  | 0, _, _, _, _ => none
  | k + 1, x3, x7, x8, x9 => if x9 < x8 then (if 0 ≤ x9 then (if x9 < (x7.length : Int) then ((slices_Clone_int_int.f ((rd_T66 x7 x9).f1)).bind fun t274 => (if x3.length < 2932031007402 then (impl_copyBinds.l0 k (x3 ++ [(⟨(rd_T66 x7 x9).f0, t274, (rd_T66 x7 x9).f2⟩ : S66)]) x7 x8 (wrap64 (x9 + 1))) else (none))) else (none)) else (none)) else (some x3)
noncomputable def impl_copyBinds.f (k : Nat) (l0 : List (S66)) : Option ((List (S66))) := impl_copyBinds.l0 k (([] : List (S66))) l0 (l0.length : Int) 0
theorem impl_copyBinds.mono_l : ∀ k, (∀ y0 y1 y2 y3, LeO (impl_copyBinds.l0 k y0 y1 y2 y3) (impl_copyBinds.l0 (k + 1) y0 y1 y2 y3))
  | 0 => fun _ _ _ _ r h => by simp [impl_copyBinds.l0] at h
  | k + 1 => by
    have ih0 := impl_copyBinds.mono_l k
    · intro y0 y1 y2 y3
      unfold impl_copyBinds.l0
      repeat' first
      | (with_reducible exact ih0 _ _ _ _)
      | (with_reducible exact LeO.refl _)
      | (with_reducible exact LeO.none _)
      | (with_reducible refine LeO.ite ?_ ?_)
      | (with_reducible refine LeO.bind ?_ (fun _ => ?_))
      | exact ih0 _ _ _ _
      | exact LeO.none _
      | refine LeO.ite ?_ ?_
      | refine LeO.bind ?_ (fun _ => ?_)
theorem impl_copyBinds.mono : ∀ a0 k, LeO (impl_copyBinds.f k a0) (impl_copyBinds.f (k + 1) a0) := by
  intro a0 k
  have ih0 := impl_copyBinds.mono_l k
  unfold impl_copyBinds.f
  repeat' first
      | (with_reducible exact ih0 _ _ _ _)
      | (with_reducible exact LeO.refl _)
      | (with_reducible exact LeO.none _)
      | (with_reducible refine LeO.ite ?_ ?_)
      | (with_reducible refine LeO.bind ?_ (fun _ => ?_))
      | exact ih0 _ _ _ _
      | exact LeO.none _
      | refine LeO.ite ?_ ?_
      | refine LeO.bind ?_ (fun _ => ?_)
set_option maxHeartbeats 8000000 in
set_option maxRecDepth 100000 in
theorem impl_copyBinds.calls (k : Nat) (A0 : Option Addr) (c0 : Nat) (l0 : List (S66)) (r : List (S66)) (w : World) (hr0 : Kd.C k66 w A0 l0.length l0) (hc0 : l0.length ≤ c0) (h : impl_copyBinds.f k l0 = some r) :
    Calls Try.prog 60 #[.slice A0 l0.length c0] w fun e w' => ∃ v0_ : Value, e = .returned (v0_) ∧ Kd.S k66 66 w' w.heap.size (fun _ => True) v0_ r ∧ Below w.heap.size w w' := by
  have hu66 := Try.underlying66
  have HR0 := Aside0.mk hr0
  have HC0 := Aside0.mk hc0
  clear hr0 hc0
  have HB := Aside0.mk (Below.refl w.heap.size w)
  have H : (impl_copyBinds.l0 k (([] : List (S66))) l0 (l0.length : Int) 0) = some r := h
  clear h
  obtain ⟨y269, hy269⟩ : ∃ y_ : List (S66), y_ = (([] : List (S66))) := ⟨_, rfl⟩
  replace H : (impl_copyBinds.l0 k y269 l0 (l0.length : Int) 0) = some r := by first | (rw [hy269]; with_reducible exact H) | (have H2_ := (Option.bind_some _ _).symm.trans H; rw [hy269]; with_reducible exact H2_) | (have H2_ := (Option.bind_some _ _).symm.trans H; with_reducible exact H2_) | with_reducible exact H | (rw [hy269]; exact H) | exact H
  have Ny269 := Aside0.mk hy269
  clear hy269
  have H' := Aside0.mk H
  clear H
  go_enter Try.func60, Try.ntmps60
  go_wp2_with (first | ((with_reducible refine gate_dst (N := 6) rfl ?_); refine Kd.S_lit k66 _ 66 ?hg (N := 6) ?hd (xs := ([] : List (S66))) (inner := []) (ok := fun _ => True) (okp := fun _ => True) ?hr ?hp (fun _ hk => hk) trivial (Below.refl _ _) (Nat.le_refl _) (by simp) ?_; (case hd => rfl); (case hg => rfl); (case hr => first | (go_simp; done) | (go_simp; rfl)); (case hp => exact (Reps.none _ _)); intro v270 w2 ho3 hb hg_ hnew_; clear hg_ hnew_; (first | rw [← Ny269.out] at ho3 | (simp only [Int.reduceToNat] at ho3; rw [← Ny269.out] at ho3)); have n0_ := Aside0.mk (Kd.S_lower ho3 (below_size (by repeat (first | (with_reducible first | exact HB.out | apply below_alloc | apply pw_below_drewN | apply below_drew1) | exact HB.out)))); have n1_ := Aside0.mk (below_step (by repeat (first | (with_reducible first | exact HB.out | apply below_alloc | apply pw_below_drewN | apply below_drew1) | exact HB.out)) hb); clear HB; have HO271 := n0_; have HB := n1_; clear n0_ n1_; clear hb ho3))
  go_loopg [3, 9] k (fun kq v3 v9 w' => ∃ (x3_1 : List (S66)) (x9_1 : Int), v9 = .int .i64 x9_1 ∧ Aside0 (impl_copyBinds.l0 kq x3_1 l0 (l0.length : Int) x9_1 = some r) ∧ Aside0 (kq ≤ k) ∧ Aside0 (Kd.S k66 66 w' w.heap.size (fun _ => True) v3 x3_1) ∧ Aside0 (Below w.heap.size w w'))
  case atStart => exact ⟨(y269), (0), (by first | rfl | (simp; done) | (simp [*]; done)), H', ⟨Nat.le_refl _⟩, ⟨by (with_reducible repeat (first | apply Kd.S_alloc | apply Kd.S_drewN | apply Kd.S_drew)); exact HO271.out⟩, ⟨by repeat (first | (with_reducible first | exact HB.out | apply below_alloc | apply pw_below_drewN | apply below_drew1) | exact HB.out)⟩⟩
  case round =>
    clear H'
    try clear p2
    obtain ⟨x3_1, x9_1, rfl, HA, HK1, HO_3, HB⟩ := hrel
    cases gk with
    | zero => exact absurd HA.out (by simp [impl_copyBinds.l0])
    | succ k1 =>
      have H := HA.out
      clear HA
      simp only [impl_copyBinds.l0] at H
      by_cases c4 : x9_1 < (l0.length : Int)
      · rw [if_pos c4] at H
        have c4b0 : decide (x9_1 < (l0.length : Int)) = true := decide_eq_true c4
        clear c4
        by_cases c5 : 0 ≤ x9_1
        · rw [if_pos c5] at H
          have c5b0 : decide (0 ≤ x9_1) = true := decide_eq_true c5
          clear c5
          by_cases c6 : x9_1 < (l0.length : Int)
          · rw [if_pos c6] at H
            have c6b0 : decide (x9_1 < (l0.length : Int)) = true := decide_eq_true c6
            clear c6
            replace H := Option.bind_eq_some_iff.mp H
            obtain ⟨t274, A70, H⟩ := H
            replace H : (if x3_1.length < 2932031007402 then (impl_copyBinds.l0 k1 (x3_1 ++ [(⟨(rd_T66 l0 x9_1).f0, t274, (rd_T66 l0 x9_1).f2⟩ : S66)]) l0 (l0.length : Int) (wrap64 (x9_1 + 1))) else (none)) = some r := H
            have A7 := Aside0.mk A70
            clear A70
            by_cases c8 : x3_1.length < 2932031007402
            · rw [if_pos c8] at H
              have LMc8 := Aside0.mk c8
              clear c8
              obtain ⟨y277, hy277⟩ : ∃ y_ : List (S66), y_ = (x3_1 ++ [(⟨(rd_T66 l0 x9_1).f0, t274, (rd_T66 l0 x9_1).f2⟩ : S66)]) := ⟨_, rfl⟩
              replace H : (impl_copyBinds.l0 k1 y277 l0 (l0.length : Int) (wrap64 (x9_1 + 1))) = some r := by first | (rw [hy277]; with_reducible exact H) | (have H2_ := (Option.bind_some _ _).symm.trans H; rw [hy277]; with_reducible exact H2_) | (have H2_ := (Option.bind_some _ _).symm.trans H; with_reducible exact H2_) | with_reducible exact H | (rw [hy277]; exact H) | exact H
              have Ny277 := Aside0.mk hy277
              clear hy277
              have H' := Aside0.mk H
              clear H
              have p272 : 0 ≤ (x9_1 : Int) := of_decide_eq_true (by first | (with_reducible assumption) | assumption)
              have q272 : x9_1 < (l0.length : Int) := of_decide_eq_true (by first | (with_reducible assumption) | assumption)
              obtain ⟨ad272, A272_1, c272_1, e272, hx272_0, hx272_1, hx272_2, hl272_1, hi272_1⟩ := at_T66 HR0.out x9_1 p272 q272
              cases e272
              replace hx272_0 := (HB.out.cell (World.block_lt_of_cell? w _ hx272_0)).trans hx272_0
              replace hx272_1 := (HB.out.cell (World.block_lt_of_cell? w _ hx272_1)).trans hx272_1
              replace hx272_2 := (HB.out.cell (World.block_lt_of_cell? w _ hx272_2)).trans hx272_2
              have HR272_1 := Aside0.mk hi272_1
              have HC272_1 := Aside0.mk hl272_1
              clear hi272_1 hl272_1
              replace p272 := eq_true p272
              replace q272 := eq_true q272
              go_wp2_with (first | ((with_reducible refine gate_dst (N := 5) rfl ?_); refine box_event ?hg (N := 5) ?hd (cs := #[.string (⟨#[]⟩ : ByteArray), .slice none 0 0, .int .i64 0]) (t := 66) ?hr ?_; (case hd => rfl); (case hg => rfl); (case hr => first | (go_simp; done) | (go_simp; rfl)); intro gb273 hg w9 hbox hb; have n0_ := Aside0.mk (Kd.S_below (Kd.S_elderB (by (with_reducible repeat (first | apply Kd.S_alloc | apply Kd.S_drewN | apply Kd.S_drew)); exact HO_3.out) gb273 (Nat.le_of_eq hg.symm)) hb); have n1_ := Aside0.mk (below_step (by repeat (first | (with_reducible first | exact HB.out | apply below_alloc | apply pw_below_drewN | apply below_drew1) | exact HB.out)) hb); have n2_ := Aside0.mk (hbox); have n3_ := Aside0.mk ((by rw [hg]; exact (below_size (by repeat (first | (with_reducible first | exact HB.out | apply below_alloc | apply pw_below_drewN | apply below_drew1) | exact HB.out))) : w.heap.size ≤ gb273)); have n4_ := Aside0.mk ((by rw [hg]; exact (below_size (by repeat (first | (with_reducible first | exact HB.out | apply below_alloc | apply pw_below_drewN | apply below_drew1) | exact HB.out))) : w.heap.size ≤ gb273)); clear HO_3; clear HB; have HO_3 := n0_; have HB := n1_; have BK273 := n2_; have GW273 := n3_; have GE273 := n4_; clear n0_ n1_ n2_ n3_ n4_; clear hb hbox hg; have hcz10_0 : w9.cell? ⟨gb273, 0, none⟩ = some (.string (⟨#[]⟩ : ByteArray)) := (blk_cell BK273.out 0).trans rfl; have hcz10_1 : w9.cell? ⟨gb273, 1, none⟩ = some (.slice none 0 0) := (blk_cell BK273.out 1).trans rfl; have hcz10_2 : w9.cell? ⟨gb273, 2, none⟩ = some (.int .i64 0) := (blk_cell BK273.out 2).trans rfl; have hfz10_0 := blk_frozen BK273.out 0; have hfz10_1 := blk_frozen BK273.out 1; have hfz10_2 := blk_frozen BK273.out 2) | ((with_reducible refine gate_callee (f := 61) rfl ?_); refine goesL_ (some 15) rfl rfl Try.func61 (by kernel_rfl) rfl #[.slice A272_1 ((rd_T66 l0 x9_1).f1).length c272_1] rfl (by (try simp only [List.map_toArray, List.map_cons, List.map_nil]); first | done | rfl | (simp only [List.length_drop, List.length_take]; rfl)) ?_; (with_reducible refine (slices_Clone_int_int.calls _ _ ((rd_T66 l0 x9_1).f1) t274 _ ?side1 ?side2 A7.out).mono ?_); (case side1 => exact Kd.C_below HR272_1.out (by repeat (first | (with_reducible first | exact HB.out | apply below_alloc | apply pw_below_drewN | apply below_drew1 | refine below_set ?_ GE273.out) | exact HB.out))); (case side2 => exact HC272_1.out); rintro e w11 ⟨v275, rfl, ho0, hb⟩; refine ⟨_, rfl, ?_⟩; have n0_ := Aside0.mk (Kd.S_elder' (by (with_reducible repeat (first | apply Kd.S_alloc | apply Kd.S_drewN | apply Kd.S_drew)); exact (Kd.S_mono (Kd.S_far (p := ⟨gb273, 2, none⟩) (Kd.S_far (p := ⟨gb273, 1, none⟩) (Kd.S_far (p := ⟨gb273, 0, none⟩) (Kd.S_mono HO_3.out (fun k_ hk => (⟨hk, hk.2⟩ : _ ∧ k_ ≠ gb273))) (fun _ hk => hk.2) (.string ((rd_T66 l0 x9_1).f0))) (fun _ hk => hk.2) (.slice A272_1 ((rd_T66 l0 x9_1).f1).length c272_1)) (fun _ hk => hk.2) (.int .i64 ((rd_T66 l0 x9_1).f2))) (fun _ h_ => h_.1))) (Kd.R_base ho0) hb); have n1_ := Aside0.mk (Kd.R_lower ho0 (below_size (by repeat (first | (with_reducible first | exact HB.out | apply below_alloc | apply pw_below_drewN | apply below_drew1 | refine below_set ?_ GE273.out) | exact HB.out)))); have n2_ := Aside0.mk (blk_below (g := gb273) (o := .cells #[.string ((rd_T66 l0 x9_1).f0), .slice A272_1 ((rd_T66 l0 x9_1).f1).length c272_1, .int .i64 ((rd_T66 l0 x9_1).f2)] 66 (0, 0)) (by (with_reducible repeat (first | refine blk_drewN ?_ _ | refine blk_drew ?_ | refine blk_alloc ?_ _)); refine blk_put (cs := #[.string ((rd_T66 l0 x9_1).f0), .slice A272_1 ((rd_T66 l0 x9_1).f1).length c272_1, .int .i64 0]) ?_ 2 _ rfl; (with_reducible repeat (first | refine blk_drewN ?_ _ | refine blk_drew ?_ | refine blk_alloc ?_ _)); refine blk_put (cs := #[.string ((rd_T66 l0 x9_1).f0), .slice none 0 0, .int .i64 0]) ?_ 1 _ rfl; (with_reducible repeat (first | refine blk_drewN ?_ _ | refine blk_drew ?_ | refine blk_alloc ?_ _)); refine blk_put (cs := #[.string (⟨#[]⟩ : ByteArray), .slice none 0 0, .int .i64 0]) ?_ 0 _ rfl; (with_reducible repeat (first | refine blk_drewN ?_ _ | refine blk_drew ?_ | refine blk_alloc ?_ _)); exact BK273.out) hb); have n3_ := Aside0.mk (below_step (by repeat (first | (with_reducible first | exact HB.out | apply below_alloc | apply pw_below_drewN | apply below_drew1 | refine below_set ?_ GE273.out) | exact HB.out)) hb); clear HO_3; clear BK273; clear HB; have HO_3 := n0_; have HO276 := n1_; have BK273 := n2_; have HB := n3_; clear n0_ n1_ n2_ n3_; (try clear hb); (try clear hb2); (try clear hk); (try clear hi); (try clear ho0); obtain ⟨Ao12, co12, eo12⟩ := Kd.R_slice HO276.out; subst eo12; have hcz13_0 : w11.cell? ⟨gb273, 0, none⟩ = some (.string ((rd_T66 l0 x9_1).f0)) := (blk_cell BK273.out 0).trans rfl; have hcz13_1 : w11.cell? ⟨gb273, 1, none⟩ = some (.slice A272_1 ((rd_T66 l0 x9_1).f1).length c272_1) := (blk_cell BK273.out 1).trans rfl; have hcz13_2 : w11.cell? ⟨gb273, 2, none⟩ = some (.int .i64 ((rd_T66 l0 x9_1).f2)) := (blk_cell BK273.out 2).trans rfl; have hfz13_0 := blk_frozen BK273.out 0; have hfz13_1 := blk_frozen BK273.out 1; have hfz13_2 := blk_frozen BK273.out 2) | ((with_reducible refine gate_store (t := 23) (p := 16) rfl ?_); refine store_event (t := 23) (p := 16) (v := ?vo_w14) (w1 := (w11.setCell ⟨gb273, 1, none⟩ (.slice Ao12 t274.length co12))) ?hg ?ho ?hn ?hr ?_; (case ho => rfl); (case hg => rfl); (case hn => rfl); (case hr => first | (go_simp; done) | (go_simp; rfl)); intro w14 hw; have n0_ : Aside0 (Kd.S k66 66 w14 w.heap.size (fun k_ => some k_ ≠ (.slice Ao12 t274.length co12 : Value).ownBlock ∧ k_ ≠ gb273) u3 x3_1) := ⟨(by rw [hw]; exact (by (with_reducible repeat (first | apply Kd.S_alloc | apply Kd.S_drewN | apply Kd.S_drew)); exact Kd.S_mono (Kd.S_far (p := ⟨gb273, 1, none⟩) (Kd.S_mono HO_3.out (fun k_ hk => (⟨hk, hk.1.2⟩ : _ ∧ k_ ≠ gb273))) (fun _ hk => hk.2) (.slice Ao12 t274.length co12)) (fun _ hk => ⟨hk.1.2, hk.1.1.2⟩)))⟩; have n1_ : Aside0 (Kd.R (Kd.int .i64) 3 w14 w.heap.size (fun _ => True) (.slice Ao12 t274.length co12) t274) := ⟨(by rw [hw]; exact (by (with_reducible repeat (first | apply Kd.R_alloc | apply Kd.R_drewN | apply Kd.R_drew)); exact Kd.R_mono (Kd.R_far (p := ⟨gb273, 1, none⟩) (Kd.R_types HO276.out BK273.out (by decide)) (fun _ hk => hk.2) (.slice Ao12 t274.length co12)) (fun _ hk => trivial)))⟩; have n2_ : Aside0 (w14.heap[gb273]? = some (.cells #[.string ((rd_T66 l0 x9_1).f0), .slice Ao12 t274.length co12, .int .i64 ((rd_T66 l0 x9_1).f2)] 66 (0, 0))) := ⟨(by rw [hw]; exact (by (with_reducible repeat (first | refine blk_drewN ?_ _ | refine blk_drew ?_ | refine blk_alloc ?_ _)); refine blk_put (cs := #[.string ((rd_T66 l0 x9_1).f0), .slice A272_1 ((rd_T66 l0 x9_1).f1).length c272_1, .int .i64 ((rd_T66 l0 x9_1).f2)]) ?_ 1 _ rfl; (with_reducible repeat (first | refine blk_drewN ?_ _ | refine blk_drew ?_ | refine blk_alloc ?_ _)); exact BK273.out))⟩; have n3_ : Aside0 (Below w.heap.size w w14) := ⟨(by rw [hw]; exact (by repeat (first | (with_reducible first | exact HB.out | apply below_alloc | apply pw_below_drewN | apply below_drew1 | refine below_set ?_ GE273.out) | exact HB.out)))⟩; clear hw; clear HO_3; clear HO276; clear BK273; clear HB; have HO_3 := n0_; have HO276 := n1_; have BK273 := n2_; have HB := n3_; clear n0_ n1_ n2_ n3_; have hcz15_0 : w14.cell? ⟨gb273, 0, none⟩ = some (.string ((rd_T66 l0 x9_1).f0)) := (blk_cell BK273.out 0).trans rfl; have hcz15_1 : w14.cell? ⟨gb273, 1, none⟩ = some (.slice Ao12 t274.length co12) := (blk_cell BK273.out 1).trans rfl; have hcz15_2 : w14.cell? ⟨gb273, 2, none⟩ = some (.int .i64 ((rd_T66 l0 x9_1).f2)) := (blk_cell BK273.out 2).trans rfl; have hfz15_0 := blk_frozen BK273.out 0; have hfz15_1 := blk_frozen BK273.out 1; have hfz15_2 := blk_frozen BK273.out 2) | ((with_reducible refine gate_builtin (b := .append) (xs := #[.tmp 17, .tmp 19]) rfl ?_); at_builtin; refine Kd.S_append k66 (w0 := w) w.heap.size rfl (.tmp 17) (.tmp 19) 30 66 (.agg #[(.string ⟨#[]⟩), (.slice none 0 0), (.int .i64 0)]) 48 rfl Try.underlying30 info66 rfl (by decide) (by omega) u3 x3_1 (⟨(rd_T66 l0 x9_1).f0, t274, (rd_T66 l0 x9_1).f2⟩ : S66) [.string ((rd_T66 l0 x9_1).f0), .slice Ao12 t274.length co12, .int .i64 ((rd_T66 l0 x9_1).f2)] (fun k_ => k_ ≠ gb273) (fun k_ => some k_ = (.slice Ao12 t274.length co12 : Value).ownBlock) rfl rfl ?aP (fun k_ hk_ => ((Kd.R_mono (ok' := fun k_ => ((fun k_ => k_ ≠ gb273)) k_ ∧ some k_ ≠ (u3 : Value).ownBlock) (Kd.R_types (Kd.R_apart' (HO276.out) (Kd.S_typed HO_3.out) (by decide)) BK273.out (by decide)) (fun k_ hk => ⟨hk.2, hk.1.2⟩))).1 k_ hk_.symm) ?aF ?aO ?aB ?aS ?aL ?_; (case aP => exact k66_mkM _ _ _ (⟨(rd_T66 l0 x9_1).f0, t274, (rd_T66 l0 x9_1).f2⟩ : S66) (Kd.R_mono (Kd.R_tight rfl (Kd.R_mono (ok' := fun k_ => ((fun k_ => k_ ≠ gb273)) k_ ∧ some k_ ≠ (u3 : Value).ownBlock) (Kd.R_types (Kd.R_apart' (HO276.out) (Kd.S_typed HO_3.out) (by decide)) BK273.out (by decide)) (fun k_ hk => ⟨hk.2, hk.1.2⟩))) (fun _ h_ => h_))); (case aB => exact (by repeat (first | (with_reducible first | exact HB.out | apply below_alloc | apply pw_below_drewN | apply below_drew1 | refine below_set ?_ GE273.out) | exact HB.out))); (case aF => exact (fun k_ hk => Kd.freshB (g := gb273) (o := .cells #[.string ((rd_T66 l0 x9_1).f0), .slice Ao12 t274.length co12, .int .i64 ((rd_T66 l0 x9_1).f2)] 66 (0, 0)) (by (with_reducible repeat (first | refine blk_drewN ?_ _ | refine blk_drew ?_ | refine blk_alloc ?_ _)); exact BK273.out) k_ hk)); (case aO => exact (by (with_reducible repeat (first | apply Kd.S_alloc | apply Kd.S_drewN | apply Kd.S_drew)); exact Kd.S_mono HO_3.out (fun k_ hk => ⟨hk.2, fun e_ => hk.1 e_⟩))); (case aS => exact (below_size (by repeat (first | (with_reducible first | exact HB.out | apply below_alloc | apply pw_below_drewN | apply below_drew1 | refine below_set ?_ GE273.out) | exact HB.out)))); (case aL => have := LMc8.out; omega); intro v278 w16 ho hb hg hat; rw [← Ny277.out] at ho; have n0_ := Aside0.mk (blk_grown (g := gb273) (o := .cells #[.string ((rd_T66 l0 x9_1).f0), .slice Ao12 t274.length co12, .int .i64 ((rd_T66 l0 x9_1).f2)] 66 (0, 0)) (by (with_reducible repeat (first | refine blk_drewN ?_ _ | refine blk_drew ?_ | refine blk_alloc ?_ _)); exact BK273.out) hg (Kd.S_away HO_3.out (fun _ hk => hk.2))); have n1_ := Aside0.mk (hb); have n2_ := Aside0.mk (ho); clear BK273; clear HB; clear HO_3; clear HO276; have BK273 := n0_; have HB := n1_; have HO279 := n2_; clear n0_ n1_ n2_; clear ho hb hg hat))
              go_roundg k1
              case measure => have := HK1.out; omega
              case rel => exact ⟨(y277), (wrap64 (x9_1 + 1)), (by first | rfl | (simp; done) | (simp [*]; done)), H', ⟨by have := HK1.out; omega⟩, ⟨by (with_reducible repeat (first | apply Kd.S_alloc | apply Kd.S_drewN | apply Kd.S_drew)); exact Kd.S_mono HO279.out (fun _ hk => trivial)⟩, ⟨by repeat (first | (with_reducible first | exact HB.out | apply below_alloc | apply pw_below_drewN | apply below_drew1 | refine below_set ?_ GE273.out) | exact HB.out)⟩⟩
            · rw [if_neg c8] at H
              exact absurd H (by simp)
          · rw [if_neg c6] at H
            exact absurd H (by simp)
        · rw [if_neg c5] at H
          exact absurd H (by simp)
      · rw [if_neg c4] at H
        have c4b0 : decide (x9_1 < (l0.length : Int)) = false := decide_eq_false c4
        clear c4
        obtain rfl := Option.some.inj H
        go_wp2
        go_ret
        exact ⟨_, by first | rfl | (simp [errW_none, errW_some] <;> rfl) | (simp [*, errW_none, errW_some] <;> rfl), by (with_reducible repeat (first | apply Kd.S_alloc | apply Kd.S_drewN | apply Kd.S_drew)); exact HO_3.out, by repeat (first | (with_reducible first | exact HB.out | apply below_alloc | apply pw_below_drewN | apply below_drew1) | exact HB.out)⟩

end Go.Proofs.Ytlklclebjeeaaaa.Q
end
section
namespace Go.Proofs.Ytlklclebjeeaaaa.Q
open Go.RowKit Go.Proofs.YtlklclebjeeaaaaW.PrintWords Go.Proofs.YtlklclebjeeaaaaW.PrintLast Go.Proofs.YtlklclebjeeaaaaW.PrintMore
attribute [local go_sem] max2_int min2_int max_two min_two max_three min_three max_four min_four   -- for this text's walks alone
set_option linter.unusedVariables false
set_option linter.unusedSimpArgs false

/-! ### impl_AddBind: function 26 -/
noncomputable def impl_AddBind.j0 : Nat → List (S66) → Int → Bool → Int → ByteArray → Int → List Int → List (S34) → Option ((List (S66)) × Bool)
  | 0, _, _, _, _, _, _, _, _ => none
  | k + 1, x0, x2, x16, x281000, x281001, x281002, x281003, x281004 => if x16 = true then (some (([] : List (S66)), false)) else ((impl_copyBinds.f k x0).bind fun t283 => ((slices_Clone_int_int.f x281003).bind fun t286 => (if t283.length < 2932031007402 then ((some (t283 ++ [(⟨x281001, t286, x2⟩ : S66)] : List (S66))).bind fun y289 => ((impl_BindsValid.f y289).bind fun t292 => (if t292 = true then (some (y289, true)) else (some (([] : List (S66)), false))))) else (none))))
noncomputable def impl_AddBind.f (k : Nat) (l0 : List (S66)) (a1_0 : Int) (a1_1 : ByteArray) (a1_2 : Int) (l1_3 : List Int) (l1_4 : List (S34)) (a2 : Int) : Option ((List (S66)) × Bool) := (impl_BindsValid.f l0).bind fun t281 => (if t281 = true then ((impl_isName.f a1_0 a1_1 a1_2 l1_3 l1_4).bind fun t282 => (impl_AddBind.j0 k l0 a2 (!t282) a1_0 a1_1 a1_2 l1_3 l1_4)) else (impl_AddBind.j0 k l0 a2 true a1_0 a1_1 a1_2 l1_3 l1_4))
theorem impl_AddBind.mono_l : ∀ k, (∀ y0 y1 y2 y3 y4 y5 y6 y7, LeO (impl_AddBind.j0 k y0 y1 y2 y3 y4 y5 y6 y7) (impl_AddBind.j0 (k + 1) y0 y1 y2 y3 y4 y5 y6 y7))
  | 0 => fun _ _ _ _ _ _ _ _ r h => by simp [impl_AddBind.j0] at h
  | k + 1 => by
    have ih0 := impl_AddBind.mono_l k
    · intro y0 y1 y2 y3 y4 y5 y6 y7
      unfold impl_AddBind.j0
      repeat' first
      | (with_reducible exact ih0 _ _ _ _ _ _ _ _)
      | (with_reducible exact impl_copyBinds.mono _ _)
      | (with_reducible exact LeO.refl _)
      | (with_reducible exact LeO.none _)
      | (with_reducible refine LeO.ite ?_ ?_)
      | (with_reducible refine LeO.bind ?_ (fun _ => ?_))
      | exact ih0 _ _ _ _ _ _ _ _
      | exact impl_copyBinds.mono _ _
      | exact LeO.none _
      | refine LeO.ite ?_ ?_
      | refine LeO.bind ?_ (fun _ => ?_)
theorem impl_AddBind.mono : ∀ a0 a1 a2 a3 a4 a5 a6 k, LeO (impl_AddBind.f k a0 a1 a2 a3 a4 a5 a6) (impl_AddBind.f (k + 1) a0 a1 a2 a3 a4 a5 a6) := by
  intro a0 a1 a2 a3 a4 a5 a6 k
  have ih0 := impl_AddBind.mono_l k
  unfold impl_AddBind.f
  repeat' first
      | (with_reducible exact ih0 _ _ _ _ _ _ _ _)
      | (with_reducible exact impl_copyBinds.mono _ _)
      | (with_reducible exact LeO.refl _)
      | (with_reducible exact LeO.none _)
      | (with_reducible refine LeO.ite ?_ ?_)
      | (with_reducible refine LeO.bind ?_ (fun _ => ?_))
      | exact ih0 _ _ _ _ _ _ _ _
      | exact impl_copyBinds.mono _ _
      | exact LeO.none _
      | refine LeO.ite ?_ ?_
      | refine LeO.bind ?_ (fun _ => ?_)
noncomputable def impl_AddBind.T3 : Bool × List (List Nat × List Nat) := (true, [([], []), ([0], [0]), ([], []), ([2], [2]), ([], []), ([4], [4]), ([5, 1], [5]), ([], []), ([3, 6, 7], [3, 6, 7]), ([8], [8]), ([1, 9, 6], [1, 9]), ([10, 10, 0, 1, 2, 3, 4, 5, 6, 7, 8, 9, 10], [10])])
noncomputable def impl_AddBind.B3 : List Nat := [0, 1, 0, 4, 0, 16, 51, 0, 255, 511, 1023, 2047]
theorem impl_AddBind.tab3 : rtab .any (opsOf Try.f26 3) = impl_AddBind.T3 := by kernel_rfl
theorem impl_AddBind.bits3 : waitsOk impl_AddBind.T3.2 impl_AddBind.B3 = true := by kernel_rfl
set_option maxHeartbeats 8000000 in
set_option maxRecDepth 100000 in
theorem impl_AddBind.calls (k : Nat) (A0 : Option Addr) (c0 : Nat) (l0 : List (S66)) (a1_0 : Int) (a1_1 : ByteArray) (a1_2 : Int) (A1_3 : Option Addr) (c1_3 : Nat) (l1_3 : List Int) (A1_4 : Option Addr) (c1_4 : Nat) (l1_4 : List (S34)) (a2 : Int) (r1 : List (S66)) (r2 : Bool) (w : World) (hr0 : Kd.C k66 w A0 l0.length l0) (hc0 : l0.length ≤ c0) (hr1_3 : Kd.C (Kd.int .i64) w A1_3 l1_3.length l1_3) (hc1_3 : l1_3.length ≤ c1_3) (hr1_4 : Kd.C k34 w A1_4 l1_4.length l1_4) (hc1_4 : l1_4.length ≤ c1_4) (h : impl_AddBind.f k l0 a1_0 a1_1 a1_2 l1_3 l1_4 a2 = some (r1, r2)) :
    Calls Try.prog 26 #[.slice A0 l0.length c0, .agg #[.int .i64 a1_0, .string a1_1, .int .i64 a1_2, .slice A1_3 l1_3.length c1_3, .slice A1_4 l1_4.length c1_4], .int .i64 a2] w fun e w' => ∃ v0_ : Value, e = .returned (.tuple #[v0_, .bool r2]) ∧ Kd.S k66 66 w' w.heap.size (fun _ => True) v0_ r1 ∧ Below w.heap.size w w' := by
  have hu34 := Try.underlying34
  have hu66 := Try.underlying66
  have HR0 := Aside0.mk hr0
  have HC0 := Aside0.mk hc0
  clear hr0 hc0
  have HR1_3 := Aside0.mk hr1_3
  have HC1_3 := Aside0.mk hc1_3
  clear hr1_3 hc1_3
  have HR1_4 := Aside0.mk hr1_4
  have HC1_4 := Aside0.mk hc1_4
  clear hr1_4 hc1_4
  have HB := Aside0.mk (Below.refl w.heap.size w)
  have H : ((impl_BindsValid.f l0).bind fun t281 => (if t281 = true then ((impl_isName.f a1_0 a1_1 a1_2 l1_3 l1_4).bind fun t282 => (impl_AddBind.j0 k l0 a2 (!t282) a1_0 a1_1 a1_2 l1_3 l1_4)) else (impl_AddBind.j0 k l0 a2 true a1_0 a1_1 a1_2 l1_3 l1_4))) = some (r1, r2) := h
  clear h
  have HC4 := Aside0.mk H
  clear H
  go_enter Try.func26, Try.ntmps26
  go_upto_region 1 with (first | ((with_reducible refine gate_dst (N := 4) rfl ?_); refine box_event ?hg (N := 4) ?hd (cs := #[.int .i64 a1_0, .string a1_1, .int .i64 a1_2, .slice A1_3 l1_3.length c1_3, .slice A1_4 l1_4.length c1_4]) (t := 34) ?hr ?_; (case hd => rfl); (case hg => rfl); (case hr => first | (go_simp; done) | (go_simp; rfl)); intro gb280 hg w5 hbox hb; have n0_ := Aside0.mk (below_step (by repeat (first | (with_reducible first | exact HB.out | apply below_alloc | apply pw_below_drewN | apply below_drew1) | exact HB.out)) hb); have n1_ := Aside0.mk (hbox); have n2_ := Aside0.mk ((by rw [hg]; exact (below_size (by repeat (first | (with_reducible first | exact HB.out | apply below_alloc | apply pw_below_drewN | apply below_drew1) | exact HB.out))) : w.heap.size ≤ gb280)); have n3_ := Aside0.mk ((by rw [hg]; exact (below_size (by repeat (first | (with_reducible first | exact HB.out | apply below_alloc | apply pw_below_drewN | apply below_drew1) | exact HB.out))) : w.heap.size ≤ gb280)); clear HB; have HB := n0_; have BK280 := n1_; have GW280 := n2_; have GE280 := n3_; clear n0_ n1_ n2_ n3_; clear hb hbox hg))
  (try simp only [Act.put, List.setIfInBounds_toArray, List.set_cons_zero, List.set_cons_succ])
  go_cut [16] (fun v16 wc => ∃ (kq : Nat) (x16_3 : Bool), v16 = .bool x16_3 ∧ Aside0 (impl_AddBind.j0 kq l0 a2 x16_3 a1_0 a1_1 a1_2 l1_3 l1_4 = some (r1, r2)) ∧ Aside0 (kq ≤ k) ∧ Aside0 (wc.heap[gb280]? = some (.cells #[.int .i64 a1_0, .string a1_1, .int .i64 a1_2, (.slice A1_3 l1_3.length c1_3), (.slice A1_4 l1_4.length c1_4)] 34 (0, 0))) ∧ Aside0 (Below w.heap.size w wc))
  case first =>
    have H := HC4.out
    clear HC4
    replace H := Option.bind_eq_some_iff.mp H
    obtain ⟨t281, A60, H⟩ := H
    replace H : (if t281 = true then ((impl_isName.f a1_0 a1_1 a1_2 l1_3 l1_4).bind fun t282 => (impl_AddBind.j0 k l0 a2 (!t282) a1_0 a1_1 a1_2 l1_3 l1_4)) else (impl_AddBind.j0 k l0 a2 true a1_0 a1_1 a1_2 l1_3 l1_4)) = some (r1, r2) := H
    have A6 := Aside0.mk A60
    clear A60
    by_cases c7 : t281 = true
    · subst c7
      have H1 : ((impl_isName.f a1_0 a1_1 a1_2 l1_3 l1_4).bind fun t282 => (impl_AddBind.j0 k l0 a2 (!t282) a1_0 a1_1 a1_2 l1_3 l1_4)) = some (r1, r2) := by rw [if_pos rfl] at H; exact H
      clear H
      have H := H1
      clear H1
      replace H := Option.bind_eq_some_iff.mp H
      obtain ⟨t282, A80, H⟩ := H
      replace H : (impl_AddBind.j0 k l0 a2 (!t282) a1_0 a1_1 a1_2 l1_3 l1_4) = some (r1, r2) := H
      have A8 := Aside0.mk A80
      clear A80
      have H' := Aside0.mk H
      clear H
      go_wp2_with (first | ((with_reducible refine gate_callee (f := 50) rfl ?_); refine goesL_ (some 10) rfl rfl Try.func50 (by kernel_rfl) rfl #[.slice A0 l0.length c0] rfl (by (try simp only [List.map_toArray, List.map_cons, List.map_nil]); first | done | rfl | (simp only [List.length_drop, List.length_take]; rfl)) ?_; (with_reducible refine (impl_BindsValid.calls _ _ l0 true _ ?side1 ?side2 A6.out).mono ?_); (case side1 => repeat (first | exact (Kd.C_below HR0.out HB.out) | (with_reducible refine Kd.C_alloc ?_ _) | (with_reducible refine Kd.C_drewN ?_ _) | (with_reducible refine Kd.C_drew ?_))); (case side2 => exact HC0.out); rintro e w9 ⟨rfl, hb⟩; refine ⟨_, rfl, ?_⟩; have n0_ := Aside0.mk (blk_below (g := gb280) (o := .cells #[.int .i64 a1_0, .string a1_1, .int .i64 a1_2, .slice A1_3 l1_3.length c1_3, .slice A1_4 l1_4.length c1_4] 34 (0, 0)) (by (with_reducible repeat (first | refine blk_drewN ?_ _ | refine blk_drew ?_ | refine blk_alloc ?_ _)); exact BK280.out) hb); have n1_ := Aside0.mk (below_step (by repeat (first | (with_reducible first | exact HB.out | apply below_alloc | apply pw_below_drewN | apply below_drew1 | refine below_set ?_ GE280.out) | exact HB.out)) hb); clear BK280; clear HB; have BK280 := n0_; have HB := n1_; clear n0_ n1_; (try clear hb); (try clear hb2); (try clear hk); (try clear hi); have hcz10_0 : w9.cell? ⟨gb280, 0, none⟩ = some (.int .i64 a1_0) := (blk_cell BK280.out 0).trans rfl; have hcz10_1 : w9.cell? ⟨gb280, 1, none⟩ = some (.string a1_1) := (blk_cell BK280.out 1).trans rfl; have hcz10_2 : w9.cell? ⟨gb280, 2, none⟩ = some (.int .i64 a1_2) := (blk_cell BK280.out 2).trans rfl; have hcz10_3 : w9.cell? ⟨gb280, 3, none⟩ = some (.slice A1_3 l1_3.length c1_3) := (blk_cell BK280.out 3).trans rfl; have hcz10_4 : w9.cell? ⟨gb280, 4, none⟩ = some (.slice A1_4 l1_4.length c1_4) := (blk_cell BK280.out 4).trans rfl; have hfz10_0 := blk_frozen BK280.out 0; have hfz10_1 := blk_frozen BK280.out 1; have hfz10_2 := blk_frozen BK280.out 2; have hfz10_3 := blk_frozen BK280.out 3; have hfz10_4 := blk_frozen BK280.out 4) | (go_at_call 51; (with_reducible refine (impl_isName.calls a1_0 a1_1 a1_2 _ _ l1_3 _ _ l1_4 t282 _ ?side1 ?side2 ?side3 ?side4 A8.out).mono ?_); (case side1 => repeat (first | exact (Kd.C_below HR1_3.out HB.out) | (with_reducible refine Kd.C_alloc ?_ _) | (with_reducible refine Kd.C_drewN ?_ _) | (with_reducible refine Kd.C_drew ?_))); (case side2 => exact HC1_3.out); (case side3 => repeat (first | exact (Kd.C_below HR1_4.out HB.out) | (with_reducible refine Kd.C_alloc ?_ _) | (with_reducible refine Kd.C_drewN ?_ _) | (with_reducible refine Kd.C_drew ?_))); (case side4 => exact HC1_4.out); rintro e w11 ⟨rfl, hb⟩; have n0_ := Aside0.mk (blk_below (g := gb280) (o := .cells #[.int .i64 a1_0, .string a1_1, .int .i64 a1_2, .slice A1_3 l1_3.length c1_3, .slice A1_4 l1_4.length c1_4] 34 (0, 0)) (by (with_reducible repeat (first | refine blk_drewN ?_ _ | refine blk_drew ?_ | refine blk_alloc ?_ _)); exact BK280.out) hb); have n1_ := Aside0.mk (below_step (by repeat (first | (with_reducible first | exact HB.out | apply below_alloc | apply pw_below_drewN | apply below_drew1 | refine below_set ?_ GE280.out) | exact HB.out)) hb); clear BK280; clear HB; have BK280 := n0_; have HB := n1_; clear n0_ n1_; (try clear hb); (try clear hb2); (try clear hk); (try clear hi)))
      go_meet
      case rel => exact ⟨_, (!t282), (by first | rfl | (simp; done) | (simp [*]; done)), H', ⟨by first | omega | exact Nat.le_refl _⟩, ⟨by (with_reducible repeat (first | refine blk_drewN ?_ _ | refine blk_drew ?_ | refine blk_alloc ?_ _)); exact BK280.out⟩, ⟨by repeat (first | (with_reducible first | exact HB.out | apply below_alloc | apply pw_below_drewN | apply below_drew1 | refine below_set ?_ GE280.out) | exact HB.out)⟩⟩
    · replace c7 := Bool.eq_false_iff.mpr c7
      subst c7
      have H1 : (impl_AddBind.j0 k l0 a2 true a1_0 a1_1 a1_2 l1_3 l1_4) = some (r1, r2) := by rw [if_neg (show ¬ (false = true) by decide)] at H; exact H
      clear H
      have H := H1
      clear H1
      have H' := Aside0.mk H
      clear H
      go_wp2_with (first | ((with_reducible refine gate_callee (f := 50) rfl ?_); refine goesL_ (some 10) rfl rfl Try.func50 (by kernel_rfl) rfl #[.slice A0 l0.length c0] rfl (by (try simp only [List.map_toArray, List.map_cons, List.map_nil]); first | done | rfl | (simp only [List.length_drop, List.length_take]; rfl)) ?_; (with_reducible refine (impl_BindsValid.calls _ _ l0 false _ ?side1 ?side2 A6.out).mono ?_); (case side1 => repeat (first | exact (Kd.C_below HR0.out HB.out) | (with_reducible refine Kd.C_alloc ?_ _) | (with_reducible refine Kd.C_drewN ?_ _) | (with_reducible refine Kd.C_drew ?_))); (case side2 => exact HC0.out); rintro e w12 ⟨rfl, hb⟩; refine ⟨_, rfl, ?_⟩; have n0_ := Aside0.mk (blk_below (g := gb280) (o := .cells #[.int .i64 a1_0, .string a1_1, .int .i64 a1_2, .slice A1_3 l1_3.length c1_3, .slice A1_4 l1_4.length c1_4] 34 (0, 0)) (by (with_reducible repeat (first | refine blk_drewN ?_ _ | refine blk_drew ?_ | refine blk_alloc ?_ _)); exact BK280.out) hb); have n1_ := Aside0.mk (below_step (by repeat (first | (with_reducible first | exact HB.out | apply below_alloc | apply pw_below_drewN | apply below_drew1 | refine below_set ?_ GE280.out) | exact HB.out)) hb); clear BK280; clear HB; have BK280 := n0_; have HB := n1_; clear n0_ n1_; (try clear hb); (try clear hb2); (try clear hk); (try clear hi)))
      go_meet
      case rel => exact ⟨_, (true), (by first | rfl | (simp; done) | (simp [*]; done)), H', ⟨by first | omega | exact Nat.le_refl _⟩, ⟨by (with_reducible repeat (first | refine blk_drewN ?_ _ | refine blk_drew ?_ | refine blk_alloc ?_ _)); exact BK280.out⟩, ⟨by repeat (first | (with_reducible first | exact HB.out | apply below_alloc | apply pw_below_drewN | apply below_drew1 | refine below_set ?_ GE280.out) | exact HB.out)⟩⟩
  case rest =>
    clear HC4
    try clear c1
    try clear c2
    try clear p2
    try clear c5
    try clear c7
    try clear hcz10_0
    try clear hcz10_1
    try clear hcz10_2
    try clear hcz10_3
    try clear hcz10_4
    try clear hfz10_0
    try clear hfz10_1
    try clear hfz10_2
    try clear hfz10_3
    try clear hfz10_4
    obtain ⟨kq, x16_3, rfl, HA, HJ3, BK280, HB⟩ := hcut
    cases kq with
    | zero => exact absurd HA.out (by simp [impl_AddBind.j0])
    | succ kj3 =>
      have H := HA.out
      clear HA
      simp only [impl_AddBind.j0] at H
      by_cases c13 : x16_3 = true
      · subst c13
        have H1 : (some (([] : List (S66)), false)) = some (r1, r2) := by rw [if_pos rfl] at H; exact H
        clear H
        have H := H1
        clear H1
        simp only [Option.some.injEq, Prod.mk.injEq] at H
        obtain ⟨rfl, rfl⟩ := H
        go_wp2
        go_ret2
        exact ⟨_, by first | rfl | (simp [errW_none, errW_some] <;> rfl) | (simp [*, errW_none, errW_some] <;> rfl), by first | exact Kd.S_nil _ _ _ _ _ | exact Kd.N_nil _ _ _ _ _ | exact Kd.V_nil _ _ _ _ _ | exact Kd.Q_nil _ _ _ _ _ | exact Kd.R_nil _ _ _ _ _, by repeat (first | (with_reducible first | exact HB.out | apply below_alloc | apply pw_below_drewN | apply below_drew1 | refine below_set ?_ GE280.out) | exact HB.out)⟩
      · replace c13 := Bool.eq_false_iff.mpr c13
        subst c13
        have H1 : ((impl_copyBinds.f kj3 l0).bind fun t283 => ((slices_Clone_int_int.f l1_3).bind fun t286 => (if t283.length < 2932031007402 then ((some (t283 ++ [(⟨a1_1, t286, a2⟩ : S66)] : List (S66))).bind fun y289 => ((impl_BindsValid.f y289).bind fun t292 => (if t292 = true then (some (y289, true)) else (some (([] : List (S66)), false))))) else (none)))) = some (r1, r2) := by rw [if_neg (show ¬ (false = true) by decide)] at H; exact H
        clear H
        have H := H1
        clear H1
        replace H := Option.bind_eq_some_iff.mp H
        obtain ⟨t283, A140, H⟩ := H
        replace H : ((slices_Clone_int_int.f l1_3).bind fun t286 => (if t283.length < 2932031007402 then ((some (t283 ++ [(⟨a1_1, t286, a2⟩ : S66)] : List (S66))).bind fun y289 => ((impl_BindsValid.f y289).bind fun t292 => (if t292 = true then (some (y289, true)) else (some (([] : List (S66)), false))))) else (none))) = some (r1, r2) := H
        have A14 := Aside0.mk A140
        clear A140
        replace H := Option.bind_eq_some_iff.mp H
        obtain ⟨t286, A150, H⟩ := H
        replace H : (if t283.length < 2932031007402 then ((some (t283 ++ [(⟨a1_1, t286, a2⟩ : S66)] : List (S66))).bind fun y289 => ((impl_BindsValid.f y289).bind fun t292 => (if t292 = true then (some (y289, true)) else (some (([] : List (S66)), false))))) else (none)) = some (r1, r2) := H
        have A15 := Aside0.mk A150
        clear A150
        by_cases c16 : t283.length < 2932031007402
        · rw [if_pos c16] at H
          have LMc16 := Aside0.mk c16
          clear c16
          obtain ⟨y289, hy289⟩ : ∃ y_ : List (S66), y_ = (t283 ++ [(⟨a1_1, t286, a2⟩ : S66)]) := ⟨_, rfl⟩
          replace H : ((impl_BindsValid.f y289).bind fun t292 => (if t292 = true then (some (y289, true)) else (some (([] : List (S66)), false)))) = some (r1, r2) := by first | (rw [hy289]; with_reducible exact H) | (have H2_ := (Option.bind_some _ _).symm.trans H; rw [hy289]; with_reducible exact H2_) | (have H2_ := (Option.bind_some _ _).symm.trans H; with_reducible exact H2_) | with_reducible exact H | (rw [hy289]; exact H) | exact H
          have Ny289 := Aside0.mk hy289
          clear hy289
          replace H := Option.bind_eq_some_iff.mp H
          obtain ⟨t292, A170, H⟩ := H
          replace H : (if t292 = true then (some (y289, true)) else (some (([] : List (S66)), false))) = some (r1, r2) := H
          have A17 := Aside0.mk A170
          clear A170
          by_cases c18 : t292 = true
          · subst c18
            have H1 : (some (y289, true)) = some (r1, r2) := by rw [if_pos rfl] at H; exact H
            clear H
            have H := H1
            clear H1
            simp only [Option.some.injEq, Prod.mk.injEq] at H
            obtain ⟨rfl, rfl⟩ := H
            try go_wp2
            have n0_ := Aside0.mk (blk_drew BK280.out)
            have n1_ := Aside0.mk (below_drew1 HB.out)
            clear BK280
            clear HB
            have BK280 := n0_
            have HB := n1_
            clear n0_ n1_
            refine start_ (n := 12) (S := fun w' => w'.cell? ⟨gb280, 0, none⟩ = some (.int .i64 a1_0) ∧ w'.cell? ⟨gb280, 1, none⟩ = some (.string a1_1) ∧ w'.cell? ⟨gb280, 2, none⟩ = some (.int .i64 a1_2) ∧ w'.cell? ⟨gb280, 3, none⟩ = some (.slice A1_3 l1_3.length c1_3) ∧ w'.cell? ⟨gb280, 4, none⟩ = some (.slice A1_4 l1_4.length c1_4)) (ds := []) #[false, false, false, false, false, false, false, false, false, false, false, false] (by kernel_rfl) rfl rfl ⟨(blk_cell BK280.out 0).trans rfl, (blk_cell BK280.out 1).trans rfl, (blk_cell BK280.out 2).trans rfl, (blk_cell BK280.out 3).trans rfl, (blk_cell BK280.out 4).trans rfl⟩ (fun hHeld => ?_); refine with_tabW impl_AddBind.tab3 impl_AddBind.bits3 (fun HT_ HW_ => ?_)
            generalize wc.drew = w19 at BK280 HB hHeld ⊢
            refine pure_ (i := 0) (N := some 17) (v := ?_) (a' := ?_) #[true, false, false, false, false, false, false, false, false, false, false, false] rfl rfl (any_of HT_.out (by kernel_rfl)) (fun _ _ _ h => h) (Or.inl ⟨by rfl, ?_⟩) ?_ ?_
            rotate_left
            · intro w'
              go_simp
              with_reducible rfl
            rotate_left
            · simp only [Act.put, List.setIfInBounds_toArray, List.set_cons_zero, List.set_cons_succ, i64_w, i32_w]
              rfl
            refine pure_ (i := 2) (N := some 19) (v := ?_) (a' := ?_) #[true, false, true, false, false, false, false, false, false, false, false, false] rfl rfl (any_of HT_.out (by kernel_rfl)) (fun _ _ _ h => h) (Or.inl ⟨by rfl, ?_⟩) ?_ ?_
            rotate_left
            · intro w'
              go_simp
              with_reducible rfl
            rotate_left
            · simp only [Act.put, List.setIfInBounds_toArray, List.set_cons_zero, List.set_cons_succ, i64_w, i32_w]
              rfl
            refine pure_ (i := 4) (N := some 21) (v := ?_) (a' := ?_) #[true, false, true, false, true, false, false, false, false, false, false, false] rfl rfl (any_of HT_.out (by kernel_rfl)) (fun _ _ _ h => h) (Or.inl ⟨by rfl, ?_⟩) ?_ ?_
            rotate_left
            · intro w'
              go_simp
              with_reducible rfl
            rotate_left
            · simp only [Act.put, List.setIfInBounds_toArray, List.set_cons_zero, List.set_cons_succ, i64_w, i32_w]
              rfl
            refine pure_ (i := 7) (N := some 24) (v := ?_) (a' := ?_) #[true, false, true, false, true, false, false, true, false, false, false, false] rfl rfl (any_of HT_.out (by kernel_rfl)) (fun _ _ _ h => h) (Or.inl ⟨by rfl, ?_⟩) ?_ ?_
            rotate_left
            · intro w'
              go_simp
              with_reducible rfl
            rotate_left
            · simp only [Act.put, List.setIfInBounds_toArray, List.set_cons_zero, List.set_cons_succ, i64_w, i32_w]
              rfl
            refine take_ (i := 3) (N := some 20) (v := ?_) (a' := ?_) #[true, false, true, true, true, false, false, true, false, false, false, false] rfl rfl (take_ofW HT_.out HW_.out (by kernel_rfl)) (fun _ _ _ h => h) (Or.inl ⟨by rfl, ?_⟩) hHeld ?_ ?_
            rotate_left
            · rintro w' ⟨s0, s1, s2, s3, s4⟩
              go_simp
              with_reducible rfl
            rotate_left
            · simp only [Act.put, List.setIfInBounds_toArray, List.set_cons_zero, List.set_cons_succ, i64_w, i32_w]
              rfl
            refine take_ (i := 5) (N := some 22) (v := ?_) (a' := ?_) #[true, false, true, true, true, true, false, true, false, false, false, false] rfl rfl (take_ofW HT_.out HW_.out (by kernel_rfl)) (fun _ _ _ h => h) (Or.inl ⟨by rfl, ?_⟩) hHeld ?_ ?_
            rotate_left
            · rintro w' ⟨s0, s1, s2, s3, s4⟩
              go_simp
              with_reducible rfl
            rotate_left
            · simp only [Act.put, List.setIfInBounds_toArray, List.set_cons_zero, List.set_cons_succ, i64_w, i32_w]
              rfl
            refine one_ (i := 1) (N := some 18) #[true, true, true, true, true, true, false, true, false, false, false, false] rfl rfl (one_of HT_.out (by kernel_rfl)) (by decide) (fun K hK => ?_)
            refine goes_ Try.func60 (by kernel_rfl) rfl #[.slice A0 l0.length c0] (by rfl) rfl rfl (by (try simp only [List.map_toArray, List.map_cons, List.map_nil]); first | done | rfl | (simp only [List.length_drop, List.length_take]; rfl)) ?_
            with_reducible refine (impl_copyBinds.calls kj3 _ _ l0 t283 _ ?side1 ?side2 A14.out).mono ?_
            (case side1 => repeat (first | exact (Kd.C_below HR0.out HB.out) | (with_reducible refine Kd.C_alloc ?_ _) | (with_reducible refine Kd.C_drewN ?_ _) | (with_reducible refine Kd.C_drew ?_)))
            (case side2 => exact HC0.out)
            rintro e w20 ⟨v284, rfl, ho0, hb⟩
            refine ⟨_, rfl, ?_⟩
            have n0_ := Aside0.mk (Kd.S_lower ho0 (below_size (by repeat (first | (with_reducible first | exact HB.out | apply below_alloc | apply pw_below_drewN | apply below_drew1 | refine below_set ?_ GE280.out) | exact HB.out))))
            have n1_ := Aside0.mk (blk_below (g := gb280) (o := .cells #[.int .i64 a1_0, .string a1_1, .int .i64 a1_2, .slice A1_3 l1_3.length c1_3, .slice A1_4 l1_4.length c1_4] 34 (0, 0)) (by (with_reducible repeat (first | refine blk_drewN ?_ _ | refine blk_drew ?_ | refine blk_alloc ?_ _)); exact BK280.out) hb)
            have n2_ := Aside0.mk (below_step (by repeat (first | (with_reducible first | exact HB.out | apply below_alloc | apply pw_below_drewN | apply below_drew1 | refine below_set ?_ GE280.out) | exact HB.out)) hb)
            clear BK280
            clear HB
            have HO285 := n0_
            have BK280 := n1_
            have HB := n2_
            clear n0_ n1_ n2_
            (try clear hb)
            (try clear hb2)
            (try clear hk)
            (try clear hi)
            (try clear ho0)
            refine hK.out _ _ ⟨(blk_cell BK280.out 0).trans rfl, (blk_cell BK280.out 1).trans rfl, (blk_cell BK280.out 2).trans rfl, (blk_cell BK280.out 3).trans rfl, (blk_cell BK280.out 4).trans rfl⟩ (fun hHeld => ?_)
            clear hK K
            refine norm_ (a' := ?_) ?_ ?_
            rotate_left
            · show Act.put _ (some 18) _ = _
              simp only [Act.put, List.setIfInBounds_toArray, List.set_cons_zero, List.set_cons_succ, i64_w, i32_w]
              rfl
            refine one_ (i := 6) (N := some 23) #[true, true, true, true, true, true, true, true, false, false, false, false] rfl rfl (one_of HT_.out (by kernel_rfl)) (by decide) (fun K hK => ?_)
            refine goes_ Try.func61 (by kernel_rfl) rfl #[.slice A1_3 l1_3.length c1_3] (by rfl) rfl rfl (by (try simp only [List.map_toArray, List.map_cons, List.map_nil]); first | done | rfl | (simp only [List.length_drop, List.length_take]; rfl)) ?_
            with_reducible refine (slices_Clone_int_int.calls _ _ l1_3 t286 _ ?side1 ?side2 A15.out).mono ?_
            (case side1 => repeat (first | exact (Kd.C_below HR1_3.out HB.out) | (with_reducible refine Kd.C_alloc ?_ _) | (with_reducible refine Kd.C_drewN ?_ _) | (with_reducible refine Kd.C_drew ?_)))
            (case side2 => exact HC1_3.out)
            rintro e w21 ⟨v287, rfl, ho0, hb⟩
            refine ⟨_, rfl, ?_⟩
            have n0_ := Aside0.mk (Kd.S_elder' (by (with_reducible repeat (first | apply Kd.S_alloc | apply Kd.S_drewN | apply Kd.S_drew)); exact HO285.out) (Kd.R_base ho0) hb)
            have n1_ := Aside0.mk (Kd.R_lower ho0 (below_size (by repeat (first | (with_reducible first | exact HB.out | apply below_alloc | apply pw_below_drewN | apply below_drew1 | refine below_set ?_ GE280.out) | exact HB.out))))
            have n2_ := Aside0.mk (blk_below (g := gb280) (o := .cells #[.int .i64 a1_0, .string a1_1, .int .i64 a1_2, .slice A1_3 l1_3.length c1_3, .slice A1_4 l1_4.length c1_4] 34 (0, 0)) (by (with_reducible repeat (first | refine blk_drewN ?_ _ | refine blk_drew ?_ | refine blk_alloc ?_ _)); exact BK280.out) hb)
            have n3_ := Aside0.mk (below_step (by repeat (first | (with_reducible first | exact HB.out | apply below_alloc | apply pw_below_drewN | apply below_drew1 | refine below_set ?_ GE280.out) | exact HB.out)) hb)
            clear HO285
            clear BK280
            clear HB
            have HO285 := n0_
            have HO288 := n1_
            have BK280 := n2_
            have HB := n3_
            clear n0_ n1_ n2_ n3_
            (try clear hb)
            (try clear hb2)
            (try clear hk)
            (try clear hi)
            (try clear ho0)
            obtain ⟨Ao22, co22, eo22⟩ := Kd.R_slice HO288.out
            (first | subst eo22 | (injection eo22 with f1_ f2_ f3_; have f4_ := f1_.symm; have f5_ := f3_.symm; clear f1_ f2_ f3_; subst f4_; subst f5_))
            refine hK.out _ _ ⟨(blk_cell BK280.out 0).trans rfl, (blk_cell BK280.out 1).trans rfl, (blk_cell BK280.out 2).trans rfl, (blk_cell BK280.out 3).trans rfl, (blk_cell BK280.out 4).trans rfl⟩ (fun hHeld => ?_)
            clear hK K
            refine norm_ (a' := ?_) ?_ ?_
            rotate_left
            · show Act.put _ (some 23) _ = _
              simp only [Act.put, List.setIfInBounds_toArray, List.set_cons_zero, List.set_cons_succ, i64_w, i32_w]
              rfl
            refine pure_ (i := 8) (N := some 25) (v := ?_) (a' := ?_) #[true, true, true, true, true, true, true, true, true, false, false, false] rfl rfl (any_of HT_.out (by kernel_rfl)) (fun _ _ _ h => h) (Or.inl ⟨by rfl, ?_⟩) ?_ ?_
            rotate_left
            · intro w'
              go_simp
              with_reducible rfl
            rotate_left
            · simp only [Act.put, List.setIfInBounds_toArray, List.set_cons_zero, List.set_cons_succ, i64_w, i32_w]
              rfl
            refine one_ (i := 9) (N := some 26) #[true, true, true, true, true, true, true, true, true, true, false, false] rfl rfl (one_of HT_.out (by kernel_rfl)) (by decide) (fun K hK => ?_)
            refine value_ (w1 := ?_) (v := ?_) (by rfl) rfl ?_ ?_
            rotate_left 2
            · go_simp
              constructor
              · rfl
              · rfl
            refine hK.out _ _ ⟨(blk_cell (blk_alloc BK280.out _) 0).trans rfl, (blk_cell (blk_alloc BK280.out _) 1).trans rfl, (blk_cell (blk_alloc BK280.out _) 2).trans rfl, (blk_cell (blk_alloc BK280.out _) 3).trans rfl, (blk_cell (blk_alloc BK280.out _) 4).trans rfl⟩ (fun hHeld => ?_)
            clear hK K
            refine norm_ (a' := ?_) ?_ ?_
            rotate_left
            · show Act.put _ (some 26) _ = _
              simp only [Act.put, List.setIfInBounds_toArray, List.set_cons_zero, List.set_cons_succ, i64_w, i32_w]
              rfl
            refine one_ (i := 10) (N := some 27) #[true, true, true, true, true, true, true, true, true, true, true, false] rfl rfl (one_of HT_.out (by kernel_rfl)) (by decide) (fun K hK => ?_)
            refine Kd.S_append_step k66 (w0 := w) w.heap.size (by rfl) (.tmp 18) (.tmp 26) 30 66 (.agg #[(.string ⟨#[]⟩), (.slice none 0 0), (.int .i64 0)]) 48 rfl Try.underlying30 info66 rfl (by decide) (by omega) v284 t283 (⟨a1_1, t286, a2⟩ : S66) [.string a1_1, .slice Ao22 t286.length co22, .int .i64 a2] (fun _ => True) (fun k_ => some k_ = (.slice Ao22 t286.length co22 : Value).ownBlock) rfl rfl ?aP (fun k_ hk_ => ((Kd.R_mono (ok' := fun k_ => ((fun _ => True)) k_ ∧ some k_ ≠ (v284 : Value).ownBlock) (Kd.R_apart' (HO288.out) (Kd.S_typed HO285.out) (by decide)) (fun k_ hk => ⟨trivial, hk.2⟩))).1 k_ hk_.symm) ?aF ?aO ?aB ?aS ?aL ?_
            (case aP => exact k66_mkM _ _ _ (⟨a1_1, t286, a2⟩ : S66) (Kd.R_mono (Kd.R_tight rfl (Kd.R_mono (ok' := fun k_ => ((fun _ => True)) k_ ∧ some k_ ≠ (v284 : Value).ownBlock) (Kd.R_apart' (HO288.out) (Kd.S_typed HO285.out) (by decide)) (fun k_ hk => ⟨trivial, hk.2⟩))) (fun _ h_ => h_)))
            (case aB => exact (by repeat (first | (with_reducible first | exact HB.out | apply below_alloc | apply pw_below_drewN | apply below_drew1 | refine below_set ?_ GE280.out) | exact HB.out)))
            (case aF => exact (fun _ _ => trivial))
            (case aO => exact (by (with_reducible repeat (first | apply Kd.S_alloc | apply Kd.S_drewN | apply Kd.S_drew)); exact Kd.S_mono HO285.out (fun k_ hk => ⟨trivial, fun e_ => hk.2 e_⟩)))
            (case aS => exact (below_size (by repeat (first | (with_reducible first | exact HB.out | apply below_alloc | apply pw_below_drewN | apply below_drew1 | refine below_set ?_ GE280.out) | exact HB.out))))
            (case aL => have := LMc16.out; omega)
            intro v290 w23 ho hb hg hat
            rw [← Ny289.out] at ho
            have n0_ := Aside0.mk (blk_grown (g := gb280) (o := .cells #[.int .i64 a1_0, .string a1_1, .int .i64 a1_2, .slice A1_3 l1_3.length c1_3, .slice A1_4 l1_4.length c1_4] 34 (0, 0)) (by (with_reducible repeat (first | refine blk_drewN ?_ _ | refine blk_drew ?_ | refine blk_alloc ?_ _)); exact BK280.out) hg (Kd.S_ne HO285.out BK280.out (by decide)))
            have n1_ := Aside0.mk (hb)
            have n2_ := Aside0.mk (ho)
            clear BK280
            clear HB
            clear HO285
            clear HO288
            have BK280 := n0_
            have HB := n1_
            have HO291 := n2_
            clear n0_ n1_ n2_
            clear ho hb hg hat
            refine hK.out _ _ ⟨(blk_cell BK280.out 0).trans rfl, (blk_cell BK280.out 1).trans rfl, (blk_cell BK280.out 2).trans rfl, (blk_cell BK280.out 3).trans rfl, (blk_cell BK280.out 4).trans rfl⟩ (fun hHeld => ?_)
            clear hK K
            refine norm_ (a' := ?_) ?_ ?_
            rotate_left
            · show Act.put _ (some 27) _ = _
              simp only [Act.put, List.setIfInBounds_toArray, List.set_cons_zero, List.set_cons_succ, i64_w, i32_w]
              rfl
            refine pure_ (i := 11) (N := some 8) (v := ?_) (a' := ?_) #[true, true, true, true, true, true, true, true, true, true, true, true] rfl rfl (any_of HT_.out (by kernel_rfl)) (fun _ _ _ h => h) (Or.inl ⟨by rfl, ?_⟩) ?_ ?_
            rotate_left
            · intro w'
              go_simp
              with_reducible rfl
            rotate_left
            · simp only [Act.put, List.setIfInBounds_toArray, List.set_cons_zero, List.set_cons_succ, i64_w, i32_w]
              rfl
            refine done_ (done_of HT_.out (by kernel_rfl)) ?_
            obtain ⟨Ao24, co24, eo24⟩ := Kd.S_slice HO291.out
            subst eo24
            try go_wp2_with (first | ((with_reducible refine gate_callee (f := 50) rfl ?_); refine goesL_ (some 29) rfl rfl Try.func50 (by kernel_rfl) rfl #[.slice Ao24 y289.length co24] rfl (by (try simp only [List.map_toArray, List.map_cons, List.map_nil]); first | done | rfl | (simp only [List.length_drop, List.length_take]; rfl)) ?_; (with_reducible refine (impl_BindsValid.calls _ _ y289 true _ ?side1 ?side2 A17.out).mono ?_); (case side1 => repeat (first | exact (Kd.S_reads' HO291.out).2.2 | (with_reducible refine Kd.C_alloc ?_ _) | (with_reducible refine Kd.C_drewN ?_ _) | (with_reducible refine Kd.C_drew ?_))); (case side2 => exact (Kd.S_reads' HO291.out).2.1); rintro e w25 ⟨rfl, hb⟩; refine ⟨_, rfl, ?_⟩; have n0_ := Aside0.mk (Kd.S_below (by (with_reducible repeat (first | apply Kd.S_alloc | apply Kd.S_drewN | apply Kd.S_drew)); exact HO291.out) hb); have n1_ := Aside0.mk (blk_below (g := gb280) (o := .cells #[.int .i64 a1_0, .string a1_1, .int .i64 a1_2, .slice A1_3 l1_3.length c1_3, .slice A1_4 l1_4.length c1_4] 34 (0, 0)) (by (with_reducible repeat (first | refine blk_drewN ?_ _ | refine blk_drew ?_ | refine blk_alloc ?_ _)); exact BK280.out) hb); have n2_ := Aside0.mk (below_step (by repeat (first | (with_reducible first | exact HB.out | apply below_alloc | apply pw_below_drewN | apply below_drew1 | refine below_set ?_ GE280.out) | exact HB.out)) hb); clear HO291; clear BK280; clear HB; have HO291 := n0_; have BK280 := n1_; have HB := n2_; clear n0_ n1_ n2_; (try clear hb); (try clear hb2); (try clear hk); (try clear hi)))
            go_ret2
            exact ⟨_, by first | rfl | (simp [errW_none, errW_some] <;> rfl) | (simp [*, errW_none, errW_some] <;> rfl), by (with_reducible repeat (first | apply Kd.S_alloc | apply Kd.S_drewN | apply Kd.S_drew)); exact HO291.out, by repeat (first | (with_reducible first | exact HB.out | apply below_alloc | apply pw_below_drewN | apply below_drew1 | refine below_set ?_ GE280.out) | exact HB.out)⟩
          · replace c18 := Bool.eq_false_iff.mpr c18
            subst c18
            have H1 : (some (([] : List (S66)), false)) = some (r1, r2) := by rw [if_neg (show ¬ (false = true) by decide)] at H; exact H
            clear H
            have H := H1
            clear H1
            simp only [Option.some.injEq, Prod.mk.injEq] at H
            obtain ⟨rfl, rfl⟩ := H
            try go_wp2
            have n0_ := Aside0.mk (blk_drew BK280.out)
            have n1_ := Aside0.mk (below_drew1 HB.out)
            clear BK280
            clear HB
            have BK280 := n0_
            have HB := n1_
            clear n0_ n1_
            refine start_ (n := 12) (S := fun w' => w'.cell? ⟨gb280, 0, none⟩ = some (.int .i64 a1_0) ∧ w'.cell? ⟨gb280, 1, none⟩ = some (.string a1_1) ∧ w'.cell? ⟨gb280, 2, none⟩ = some (.int .i64 a1_2) ∧ w'.cell? ⟨gb280, 3, none⟩ = some (.slice A1_3 l1_3.length c1_3) ∧ w'.cell? ⟨gb280, 4, none⟩ = some (.slice A1_4 l1_4.length c1_4)) (ds := []) #[false, false, false, false, false, false, false, false, false, false, false, false] (by kernel_rfl) rfl rfl ⟨(blk_cell BK280.out 0).trans rfl, (blk_cell BK280.out 1).trans rfl, (blk_cell BK280.out 2).trans rfl, (blk_cell BK280.out 3).trans rfl, (blk_cell BK280.out 4).trans rfl⟩ (fun hHeld => ?_); refine with_tabW impl_AddBind.tab3 impl_AddBind.bits3 (fun HT_ HW_ => ?_)
            generalize wc.drew = w26 at BK280 HB hHeld ⊢
            refine pure_ (i := 0) (N := some 17) (v := ?_) (a' := ?_) #[true, false, false, false, false, false, false, false, false, false, false, false] rfl rfl (any_of HT_.out (by kernel_rfl)) (fun _ _ _ h => h) (Or.inl ⟨by rfl, ?_⟩) ?_ ?_
            rotate_left
            · intro w'
              go_simp
              with_reducible rfl
            rotate_left
            · simp only [Act.put, List.setIfInBounds_toArray, List.set_cons_zero, List.set_cons_succ, i64_w, i32_w]
              rfl
            refine pure_ (i := 2) (N := some 19) (v := ?_) (a' := ?_) #[true, false, true, false, false, false, false, false, false, false, false, false] rfl rfl (any_of HT_.out (by kernel_rfl)) (fun _ _ _ h => h) (Or.inl ⟨by rfl, ?_⟩) ?_ ?_
            rotate_left
            · intro w'
              go_simp
              with_reducible rfl
            rotate_left
            · simp only [Act.put, List.setIfInBounds_toArray, List.set_cons_zero, List.set_cons_succ, i64_w, i32_w]
              rfl
            refine pure_ (i := 4) (N := some 21) (v := ?_) (a' := ?_) #[true, false, true, false, true, false, false, false, false, false, false, false] rfl rfl (any_of HT_.out (by kernel_rfl)) (fun _ _ _ h => h) (Or.inl ⟨by rfl, ?_⟩) ?_ ?_
            rotate_left
            · intro w'
              go_simp
              with_reducible rfl
            rotate_left
            · simp only [Act.put, List.setIfInBounds_toArray, List.set_cons_zero, List.set_cons_succ, i64_w, i32_w]
              rfl
            refine pure_ (i := 7) (N := some 24) (v := ?_) (a' := ?_) #[true, false, true, false, true, false, false, true, false, false, false, false] rfl rfl (any_of HT_.out (by kernel_rfl)) (fun _ _ _ h => h) (Or.inl ⟨by rfl, ?_⟩) ?_ ?_
            rotate_left
            · intro w'
              go_simp
              with_reducible rfl
            rotate_left
            · simp only [Act.put, List.setIfInBounds_toArray, List.set_cons_zero, List.set_cons_succ, i64_w, i32_w]
              rfl
            refine take_ (i := 3) (N := some 20) (v := ?_) (a' := ?_) #[true, false, true, true, true, false, false, true, false, false, false, false] rfl rfl (take_ofW HT_.out HW_.out (by kernel_rfl)) (fun _ _ _ h => h) (Or.inl ⟨by rfl, ?_⟩) hHeld ?_ ?_
            rotate_left
            · rintro w' ⟨s0, s1, s2, s3, s4⟩
              go_simp
              with_reducible rfl
            rotate_left
            · simp only [Act.put, List.setIfInBounds_toArray, List.set_cons_zero, List.set_cons_succ, i64_w, i32_w]
              rfl
            refine take_ (i := 5) (N := some 22) (v := ?_) (a' := ?_) #[true, false, true, true, true, true, false, true, false, false, false, false] rfl rfl (take_ofW HT_.out HW_.out (by kernel_rfl)) (fun _ _ _ h => h) (Or.inl ⟨by rfl, ?_⟩) hHeld ?_ ?_
            rotate_left
            · rintro w' ⟨s0, s1, s2, s3, s4⟩
              go_simp
              with_reducible rfl
            rotate_left
            · simp only [Act.put, List.setIfInBounds_toArray, List.set_cons_zero, List.set_cons_succ, i64_w, i32_w]
              rfl
            refine one_ (i := 1) (N := some 18) #[true, true, true, true, true, true, false, true, false, false, false, false] rfl rfl (one_of HT_.out (by kernel_rfl)) (by decide) (fun K hK => ?_)
            refine goes_ Try.func60 (by kernel_rfl) rfl #[.slice A0 l0.length c0] (by rfl) rfl rfl (by (try simp only [List.map_toArray, List.map_cons, List.map_nil]); first | done | rfl | (simp only [List.length_drop, List.length_take]; rfl)) ?_
            with_reducible refine (impl_copyBinds.calls kj3 _ _ l0 t283 _ ?side1 ?side2 A14.out).mono ?_
            (case side1 => repeat (first | exact (Kd.C_below HR0.out HB.out) | (with_reducible refine Kd.C_alloc ?_ _) | (with_reducible refine Kd.C_drewN ?_ _) | (with_reducible refine Kd.C_drew ?_)))
            (case side2 => exact HC0.out)
            rintro e w27 ⟨v284, rfl, ho0, hb⟩
            refine ⟨_, rfl, ?_⟩
            have n0_ := Aside0.mk (Kd.S_lower ho0 (below_size (by repeat (first | (with_reducible first | exact HB.out | apply below_alloc | apply pw_below_drewN | apply below_drew1 | refine below_set ?_ GE280.out) | exact HB.out))))
            have n1_ := Aside0.mk (blk_below (g := gb280) (o := .cells #[.int .i64 a1_0, .string a1_1, .int .i64 a1_2, .slice A1_3 l1_3.length c1_3, .slice A1_4 l1_4.length c1_4] 34 (0, 0)) (by (with_reducible repeat (first | refine blk_drewN ?_ _ | refine blk_drew ?_ | refine blk_alloc ?_ _)); exact BK280.out) hb)
            have n2_ := Aside0.mk (below_step (by repeat (first | (with_reducible first | exact HB.out | apply below_alloc | apply pw_below_drewN | apply below_drew1 | refine below_set ?_ GE280.out) | exact HB.out)) hb)
            clear BK280
            clear HB
            have HO285 := n0_
            have BK280 := n1_
            have HB := n2_
            clear n0_ n1_ n2_
            (try clear hb)
            (try clear hb2)
            (try clear hk)
            (try clear hi)
            (try clear ho0)
            refine hK.out _ _ ⟨(blk_cell BK280.out 0).trans rfl, (blk_cell BK280.out 1).trans rfl, (blk_cell BK280.out 2).trans rfl, (blk_cell BK280.out 3).trans rfl, (blk_cell BK280.out 4).trans rfl⟩ (fun hHeld => ?_)
            clear hK K
            refine norm_ (a' := ?_) ?_ ?_
            rotate_left
            · show Act.put _ (some 18) _ = _
              simp only [Act.put, List.setIfInBounds_toArray, List.set_cons_zero, List.set_cons_succ, i64_w, i32_w]
              rfl
            refine one_ (i := 6) (N := some 23) #[true, true, true, true, true, true, true, true, false, false, false, false] rfl rfl (one_of HT_.out (by kernel_rfl)) (by decide) (fun K hK => ?_)
            refine goes_ Try.func61 (by kernel_rfl) rfl #[.slice A1_3 l1_3.length c1_3] (by rfl) rfl rfl (by (try simp only [List.map_toArray, List.map_cons, List.map_nil]); first | done | rfl | (simp only [List.length_drop, List.length_take]; rfl)) ?_
            with_reducible refine (slices_Clone_int_int.calls _ _ l1_3 t286 _ ?side1 ?side2 A15.out).mono ?_
            (case side1 => repeat (first | exact (Kd.C_below HR1_3.out HB.out) | (with_reducible refine Kd.C_alloc ?_ _) | (with_reducible refine Kd.C_drewN ?_ _) | (with_reducible refine Kd.C_drew ?_)))
            (case side2 => exact HC1_3.out)
            rintro e w28 ⟨v287, rfl, ho0, hb⟩
            refine ⟨_, rfl, ?_⟩
            have n0_ := Aside0.mk (Kd.S_elder' (by (with_reducible repeat (first | apply Kd.S_alloc | apply Kd.S_drewN | apply Kd.S_drew)); exact HO285.out) (Kd.R_base ho0) hb)
            have n1_ := Aside0.mk (Kd.R_lower ho0 (below_size (by repeat (first | (with_reducible first | exact HB.out | apply below_alloc | apply pw_below_drewN | apply below_drew1 | refine below_set ?_ GE280.out) | exact HB.out))))
            have n2_ := Aside0.mk (blk_below (g := gb280) (o := .cells #[.int .i64 a1_0, .string a1_1, .int .i64 a1_2, .slice A1_3 l1_3.length c1_3, .slice A1_4 l1_4.length c1_4] 34 (0, 0)) (by (with_reducible repeat (first | refine blk_drewN ?_ _ | refine blk_drew ?_ | refine blk_alloc ?_ _)); exact BK280.out) hb)
            have n3_ := Aside0.mk (below_step (by repeat (first | (with_reducible first | exact HB.out | apply below_alloc | apply pw_below_drewN | apply below_drew1 | refine below_set ?_ GE280.out) | exact HB.out)) hb)
            clear HO285
            clear BK280
            clear HB
            have HO285 := n0_
            have HO288 := n1_
            have BK280 := n2_
            have HB := n3_
            clear n0_ n1_ n2_ n3_
            (try clear hb)
            (try clear hb2)
            (try clear hk)
            (try clear hi)
            (try clear ho0)
            obtain ⟨Ao29, co29, eo29⟩ := Kd.R_slice HO288.out
            (first | subst eo29 | (injection eo29 with f1_ f2_ f3_; have f4_ := f1_.symm; have f5_ := f3_.symm; clear f1_ f2_ f3_; subst f4_; subst f5_))
            refine hK.out _ _ ⟨(blk_cell BK280.out 0).trans rfl, (blk_cell BK280.out 1).trans rfl, (blk_cell BK280.out 2).trans rfl, (blk_cell BK280.out 3).trans rfl, (blk_cell BK280.out 4).trans rfl⟩ (fun hHeld => ?_)
            clear hK K
            refine norm_ (a' := ?_) ?_ ?_
            rotate_left
            · show Act.put _ (some 23) _ = _
              simp only [Act.put, List.setIfInBounds_toArray, List.set_cons_zero, List.set_cons_succ, i64_w, i32_w]
              rfl
            refine pure_ (i := 8) (N := some 25) (v := ?_) (a' := ?_) #[true, true, true, true, true, true, true, true, true, false, false, false] rfl rfl (any_of HT_.out (by kernel_rfl)) (fun _ _ _ h => h) (Or.inl ⟨by rfl, ?_⟩) ?_ ?_
            rotate_left
            · intro w'
              go_simp
              with_reducible rfl
            rotate_left
            · simp only [Act.put, List.setIfInBounds_toArray, List.set_cons_zero, List.set_cons_succ, i64_w, i32_w]
              rfl
            refine one_ (i := 9) (N := some 26) #[true, true, true, true, true, true, true, true, true, true, false, false] rfl rfl (one_of HT_.out (by kernel_rfl)) (by decide) (fun K hK => ?_)
            refine value_ (w1 := ?_) (v := ?_) (by rfl) rfl ?_ ?_
            rotate_left 2
            · go_simp
              constructor
              · rfl
              · rfl
            refine hK.out _ _ ⟨(blk_cell (blk_alloc BK280.out _) 0).trans rfl, (blk_cell (blk_alloc BK280.out _) 1).trans rfl, (blk_cell (blk_alloc BK280.out _) 2).trans rfl, (blk_cell (blk_alloc BK280.out _) 3).trans rfl, (blk_cell (blk_alloc BK280.out _) 4).trans rfl⟩ (fun hHeld => ?_)
            clear hK K
            refine norm_ (a' := ?_) ?_ ?_
            rotate_left
            · show Act.put _ (some 26) _ = _
              simp only [Act.put, List.setIfInBounds_toArray, List.set_cons_zero, List.set_cons_succ, i64_w, i32_w]
              rfl
            refine one_ (i := 10) (N := some 27) #[true, true, true, true, true, true, true, true, true, true, true, false] rfl rfl (one_of HT_.out (by kernel_rfl)) (by decide) (fun K hK => ?_)
            refine Kd.S_append_step k66 (w0 := w) w.heap.size (by rfl) (.tmp 18) (.tmp 26) 30 66 (.agg #[(.string ⟨#[]⟩), (.slice none 0 0), (.int .i64 0)]) 48 rfl Try.underlying30 info66 rfl (by decide) (by omega) v284 t283 (⟨a1_1, t286, a2⟩ : S66) [.string a1_1, .slice Ao29 t286.length co29, .int .i64 a2] (fun _ => True) (fun k_ => some k_ = (.slice Ao29 t286.length co29 : Value).ownBlock) rfl rfl ?aP (fun k_ hk_ => ((Kd.R_mono (ok' := fun k_ => ((fun _ => True)) k_ ∧ some k_ ≠ (v284 : Value).ownBlock) (Kd.R_apart' (HO288.out) (Kd.S_typed HO285.out) (by decide)) (fun k_ hk => ⟨trivial, hk.2⟩))).1 k_ hk_.symm) ?aF ?aO ?aB ?aS ?aL ?_
            (case aP => exact k66_mkM _ _ _ (⟨a1_1, t286, a2⟩ : S66) (Kd.R_mono (Kd.R_tight rfl (Kd.R_mono (ok' := fun k_ => ((fun _ => True)) k_ ∧ some k_ ≠ (v284 : Value).ownBlock) (Kd.R_apart' (HO288.out) (Kd.S_typed HO285.out) (by decide)) (fun k_ hk => ⟨trivial, hk.2⟩))) (fun _ h_ => h_)))
            (case aB => exact (by repeat (first | (with_reducible first | exact HB.out | apply below_alloc | apply pw_below_drewN | apply below_drew1 | refine below_set ?_ GE280.out) | exact HB.out)))
            (case aF => exact (fun _ _ => trivial))
            (case aO => exact (by (with_reducible repeat (first | apply Kd.S_alloc | apply Kd.S_drewN | apply Kd.S_drew)); exact Kd.S_mono HO285.out (fun k_ hk => ⟨trivial, fun e_ => hk.2 e_⟩)))
            (case aS => exact (below_size (by repeat (first | (with_reducible first | exact HB.out | apply below_alloc | apply pw_below_drewN | apply below_drew1 | refine below_set ?_ GE280.out) | exact HB.out))))
            (case aL => have := LMc16.out; omega)
            intro v290 w30 ho hb hg hat
            rw [← Ny289.out] at ho
            have n0_ := Aside0.mk (blk_grown (g := gb280) (o := .cells #[.int .i64 a1_0, .string a1_1, .int .i64 a1_2, .slice A1_3 l1_3.length c1_3, .slice A1_4 l1_4.length c1_4] 34 (0, 0)) (by (with_reducible repeat (first | refine blk_drewN ?_ _ | refine blk_drew ?_ | refine blk_alloc ?_ _)); exact BK280.out) hg (Kd.S_ne HO285.out BK280.out (by decide)))
            have n1_ := Aside0.mk (hb)
            have n2_ := Aside0.mk (ho)
            clear BK280
            clear HB
            clear HO285
            clear HO288
            have BK280 := n0_
            have HB := n1_
            have HO291 := n2_
            clear n0_ n1_ n2_
            clear ho hb hg hat
            refine hK.out _ _ ⟨(blk_cell BK280.out 0).trans rfl, (blk_cell BK280.out 1).trans rfl, (blk_cell BK280.out 2).trans rfl, (blk_cell BK280.out 3).trans rfl, (blk_cell BK280.out 4).trans rfl⟩ (fun hHeld => ?_)
            clear hK K
            refine norm_ (a' := ?_) ?_ ?_
            rotate_left
            · show Act.put _ (some 27) _ = _
              simp only [Act.put, List.setIfInBounds_toArray, List.set_cons_zero, List.set_cons_succ, i64_w, i32_w]
              rfl
            refine pure_ (i := 11) (N := some 8) (v := ?_) (a' := ?_) #[true, true, true, true, true, true, true, true, true, true, true, true] rfl rfl (any_of HT_.out (by kernel_rfl)) (fun _ _ _ h => h) (Or.inl ⟨by rfl, ?_⟩) ?_ ?_
            rotate_left
            · intro w'
              go_simp
              with_reducible rfl
            rotate_left
            · simp only [Act.put, List.setIfInBounds_toArray, List.set_cons_zero, List.set_cons_succ, i64_w, i32_w]
              rfl
            refine done_ (done_of HT_.out (by kernel_rfl)) ?_
            obtain ⟨Ao31, co31, eo31⟩ := Kd.S_slice HO291.out
            subst eo31
            try go_wp2_with (first | ((with_reducible refine gate_callee (f := 50) rfl ?_); refine goesL_ (some 29) rfl rfl Try.func50 (by kernel_rfl) rfl #[.slice Ao31 y289.length co31] rfl (by (try simp only [List.map_toArray, List.map_cons, List.map_nil]); first | done | rfl | (simp only [List.length_drop, List.length_take]; rfl)) ?_; (with_reducible refine (impl_BindsValid.calls _ _ y289 false _ ?side1 ?side2 A17.out).mono ?_); (case side1 => repeat (first | exact (Kd.S_reads' HO291.out).2.2 | (with_reducible refine Kd.C_alloc ?_ _) | (with_reducible refine Kd.C_drewN ?_ _) | (with_reducible refine Kd.C_drew ?_))); (case side2 => exact (Kd.S_reads' HO291.out).2.1); rintro e w32 ⟨rfl, hb⟩; refine ⟨_, rfl, ?_⟩; have n0_ := Aside0.mk (Kd.S_below (by (with_reducible repeat (first | apply Kd.S_alloc | apply Kd.S_drewN | apply Kd.S_drew)); exact HO291.out) hb); have n1_ := Aside0.mk (blk_below (g := gb280) (o := .cells #[.int .i64 a1_0, .string a1_1, .int .i64 a1_2, .slice A1_3 l1_3.length c1_3, .slice A1_4 l1_4.length c1_4] 34 (0, 0)) (by (with_reducible repeat (first | refine blk_drewN ?_ _ | refine blk_drew ?_ | refine blk_alloc ?_ _)); exact BK280.out) hb); have n2_ := Aside0.mk (below_step (by repeat (first | (with_reducible first | exact HB.out | apply below_alloc | apply pw_below_drewN | apply below_drew1 | refine below_set ?_ GE280.out) | exact HB.out)) hb); clear HO291; clear BK280; clear HB; have HO291 := n0_; have BK280 := n1_; have HB := n2_; clear n0_ n1_ n2_; (try clear hb); (try clear hb2); (try clear hk); (try clear hi)))
            go_ret2
            exact ⟨_, by first | rfl | (simp [errW_none, errW_some] <;> rfl) | (simp [*, errW_none, errW_some] <;> rfl), by first | exact Kd.S_nil _ _ _ _ _ | exact Kd.N_nil _ _ _ _ _ | exact Kd.V_nil _ _ _ _ _ | exact Kd.Q_nil _ _ _ _ _ | exact Kd.R_nil _ _ _ _ _, by repeat (first | (with_reducible first | exact HB.out | apply below_alloc | apply pw_below_drewN | apply below_drew1 | refine below_set ?_ GE280.out) | exact HB.out)⟩
        · rw [if_neg c16] at H
          exact absurd H (by simp)

end Go.Proofs.Ytlklclebjeeaaaa.Q
end
section
namespace Go.Proofs.Ytlklclebjeeaaaa
open Go.RowKit Go.Proofs.YtlklclebjeeaaaaW.PrintWords Go.Proofs.YtlklclebjeeaaaaW.PrintLast Go.Proofs.YtlklclebjeeaaaaW.PrintMore
set_option linter.unusedVariables false
set_option linter.unusedSimpArgs false
section
open Go.Proofs.Ytlklclebjeeaaaa.Q
theorem f3_tot (x : Fm) : x.f3.length ≤ x.tot := by rw [Fm.tot_eq]; omega
theorem f1_tot (x : Fm) : x.f1.size ≤ x.tot := by rw [Fm.tot_eq]; omega
theorem smB_snoc {l : List Bd} (h : SmB l) (h1 : l.length ≤ 60) {b : Bd} (hb : b.f0.size ≤ 2000000 ∧ b.f1.length ≤ 2000000) : SmB (l ++ [b]) :=
  ⟨by simp; omega, fun c hc => by
    rcases List.mem_append.1 hc with h2 | h2
    · exact h.2 c h2
    · rw [List.mem_singleton.1 h2]; exact hb⟩
theorem ev_isNameI {x : Fm} (hx : x.tot ≤ 1048576) : impl_isName.f x.f0 x.f1 x.f2 x.f3 x.f4 = some (pB (IsName x)) := by
  unfold impl_isName.f
  by_cases h : x.f0 = 1
  · rw [if_pos h, show impl_FormValid.f x.f0 x.f1 x.f2 x.f3 x.f4 = some (pB (FmOk x)) from by cases x; exact gIf_yes hx _]
    show some (pB (FmOk x)) = _
    congr 1
    by_cases hv : FmOk x
    · rw [pB_iff.2 hv, pB_iff.2 ⟨h, hv⟩]
    · rw [← pB_no hv, ← pB_no (fun k : IsName x => hv k.2)]
  · rw [if_neg h, ← pB_no (fun k : IsName x => h k.1)]
theorem ev_bindsI {l : List Bd} (hl : SmB l) : impl_BindsValid.f l = some (pB (BdsOk l)) := gIf_yes (fun b hb => by have := (hl.2 b hb).1; omega) _
theorem ev_l3Copy {l : List Bd} (hl : SmB l) : Ev (fun k => spec_l3Copy.f k l) l := by
  have h0 := hl.1
  simp only [spec_l3Copy.f]
  obtain ⟨r, hp, hr⟩ := ev_loop (L := fun k (s : Int × List Bd) => spec_l3Copy.l0 k l s.2 s.1) (fun i s => s = ((i : Int), l.take i)) l.length (· = l) (by
    rintro i s hi rfl
    refine ⟨((i + 1 : Nat), l.take (i + 1)), rfl, fun r hr => ?_⟩
    have h2 := (hl.2 _ (List.getElem_mem hi)).2
    refine Ev.step (fun k => by rw [spec_l3Copy.l0]) ?_
    refine Ev.pos (by simpa using hi) ?_
    refine Ev.pos (by simp) ?_
    simp only
    rw [rdB hi]
    refine Ev.bind (g := fun _ => _) (Ev.some rfl) ?_
    refine Ev.pos (by simp; omega) ?_
    refine Ev.pos (by simp; omega) ?_
    rw [wr1 _ (by omega), List.nil_append, show (⟨l[i].f0, l[i].f1, l[i].f2⟩ : Bd) = l[i] from rfl, ← List.take_succ_eq_append_getElem hi]
    exact hr) (by
    rintro s rfl
    refine ⟨l, rfl, ?_⟩
    refine Ev.step (fun k => by rw [spec_l3Copy.l0]) ?_
    refine Ev.neg (by simp) ?_
    exact Ev.some (by simp)) (0, []) (by simp)
  subst hp
  exact hr
theorem ev_specAddBind {l : List Bd} (hl : SmB l) {x : Fm} (hx : x.tot ≤ 1048576) (id : Int) : Ev (fun k => spec_AddBind.f k l x.f0 x.f1 x.f2 x.f3 x.f4 id) (addBindR l x id) := by
  have h3 := f3_tot x
  have h1 := f1_tot x
  simp only [spec_AddBind.f]
  refine Ev.bind (ev_bindsValid hl) ?_
  unfold addBindR
  rw [isName_pair]
  rcases hv : pB (BdsOk l) with _ | _
  · refine Ev.neg (by simp) (Ev.step (fun k => by rw [spec_AddBind.j0]) ?_)
    exact Ev.pos rfl (Ev.now _)
  · have h60 := (bdsOk_iff.1 (pB_iff.1 hv)).1
    refine Ev.pos rfl (Ev.bind (g := fun _ => _) (Ev.some (ev_l3Is hx)) ?_)
    rcases pB (IsName x) with _ | _
    · refine Ev.step (fun k => by rw [spec_AddBind.j0]) ?_
      exact Ev.pos rfl (Ev.now _)
    · refine Ev.step (fun k => by rw [spec_AddBind.j0]) ?_
      refine Ev.neg (by simp) (Ev.bind (ev_l3Copy hl) (Ev.bind (g := fun _ => _) (Ev.some rfl) ?_))
      refine Ev.pos (by simp; omega) (Ev.pos (by omega) (Ev.bind (g := fun _ => _) (Ev.some rfl) ?_))
      rw [List.nil_append]
      refine Ev.bind (ev_bindsValid (smB_snoc hl h60 ⟨by show x.f1.size ≤ _; omega, by show x.f3.length ≤ _; omega⟩)) ?_
      rw [Bool.true_and, if_pos rfl]
      by_cases hb : pB (BdsOk (l ++ [⟨x.f1, x.f3, id⟩])) = true
      · refine Ev.pos hb ?_; rw [if_pos hb]; exact Ev.now _
      · refine Ev.neg hb ?_; rw [if_neg hb]; exact Ev.now _
theorem ev_copyBinds {l : List Bd} (hl : SmB l) : Ev (fun k => impl_copyBinds.f k l) l := by
  have h0 := hl.1
  simp only [impl_copyBinds.f]
  obtain ⟨r, hp, hr⟩ := ev_loop (L := fun k (s : Int × List Bd) => impl_copyBinds.l0 k s.2 l (l.length : Int) s.1) (fun i s => s = ((i : Int), l.take i)) l.length (· = l) (by
    rintro i s hi rfl
    refine ⟨((i + 1 : Nat), l.take (i + 1)), rfl, fun r hr => ?_⟩
    have h2 := (hl.2 _ (List.getElem_mem hi)).2
    refine Ev.step (fun k => by rw [impl_copyBinds.l0]) ?_
    refine Ev.pos (by simpa using hi) ?_
    refine Ev.pos (by simp) ?_
    refine Ev.pos (by simpa using hi) ?_
    simp only
    rw [rdB hi]
    refine Ev.bind (g := fun _ => _) (Ev.some (show slices_Clone_int_int.f l[i].f1 = some l[i].f1 from by first | rfl | exact gIf_yes (by omega) _)) ?_
    refine Ev.pos (by simp; omega) ?_
    rw [wr1 _ (by omega), show (⟨l[i].f0, l[i].f1, l[i].f2⟩ : Bd) = l[i] from rfl, ← List.take_succ_eq_append_getElem hi]
    exact hr) (by
    rintro s rfl
    refine ⟨l, rfl, ?_⟩
    refine Ev.step (fun k => by rw [impl_copyBinds.l0]) ?_
    refine Ev.neg (by simp) ?_
    exact Ev.some (by simp)) (0, []) (by simp)
  subst hp
  exact hr
theorem ev_implAddBind {l : List Bd} (hl : SmB l) {x : Fm} (hx : x.tot ≤ 1048576) (id : Int) : Ev (fun k => impl_AddBind.f k l x.f0 x.f1 x.f2 x.f3 x.f4 id) (addBindR l x id) := by
  have h3 := f3_tot x
  have h1 := f1_tot x
  simp only [impl_AddBind.f]
  refine Ev.bind (g := fun _ => _) (Ev.some (ev_bindsI hl)) ?_
  unfold addBindR
  rw [isName_pair]
  rcases hv : pB (BdsOk l) with _ | _
  · refine Ev.neg (by simp) (Ev.step (fun k => by rw [impl_AddBind.j0]) ?_)
    exact Ev.pos rfl (Ev.now _)
  · have h60 := (bdsOk_iff.1 (pB_iff.1 hv)).1
    refine Ev.pos rfl (Ev.bind (g := fun _ => _) (Ev.some (ev_isNameI hx)) ?_)
    rcases pB (IsName x) with _ | _
    · refine Ev.step (fun k => by rw [impl_AddBind.j0]) ?_
      exact Ev.pos rfl (Ev.now _)
    · refine Ev.step (fun k => by rw [impl_AddBind.j0]) ?_
      refine Ev.neg (by simp) (Ev.bind (ev_copyBinds hl) ?_)
      refine Ev.bind (g := fun _ => _) (Ev.some (show slices_Clone_int_int.f x.f3 = some x.f3 from by first | rfl | exact gIf_yes (by omega) _)) ?_
      refine Ev.pos (by omega) (Ev.bind (g := fun _ => _) (Ev.some rfl) ?_)
      refine Ev.bind (g := fun _ => _) (Ev.some (ev_bindsI (smB_snoc hl h60 ⟨by show x.f1.size ≤ _; omega, by show x.f3.length ≤ _; omega⟩))) ?_
      rw [Bool.true_and, if_pos rfl]
      by_cases hb : pB (BdsOk (l ++ [⟨x.f1, x.f3, id⟩])) = true
      · refine Ev.pos hb ?_; rw [if_pos hb]; exact Ev.now _
      · refine Ev.neg hb ?_; rw [if_neg hb]; exact Ev.now _
end
/-- Out of the print's form of a row of one's own whose elements lie apart. -/
theorem bdl_ofS {w : World} {base : Nat} {ok : Nat → Prop} {f : Nat → Nat} : ∀ (l : List Bd) (j0 : Nat) (inner : List Value), inner.length = l.length * 3 → (∀ (j : Nat) (p : Bd × Nat), (l.zipIdx j0)[j]? = some p → (Kd.tag f kB).M w base ok p ((inner.drop (j * 3)).take 3)) → ∃ fp, BdL w l inner fp ∧ fp.Nodup ∧ ∀ b, b ∈ fp → base ≤ b ∧ ok b ∧ j0 ≤ f b
  | [], j0, inner, hl, _ => ⟨[], ⟨List.eq_nil_of_length_eq_zero (by simpa using hl), rfl⟩, List.nodup_nil, by simp⟩
  | b :: l, j0, inner, hl, h => by
    have h0 := h 0 (b, j0) (by simp [List.zipIdx_cons])
    obtain ⟨v1, e1, hR⟩ := Q.k66_openM (show kB.M w base (fun k => ok k ∧ f k = j0) b _ from h0)
    have ho := Kd.own_of_R hR
    obtain ⟨fp, a1, a2, a3⟩ := bdl_ofS l (j0 + 1) (inner.drop 3) (by simp [hl]; omega) (fun j p hj => by
      have := h (j + 1) p (by simpa [List.zipIdx_cons] using hj)
      rwa [show (j + 1) * 3 = 3 + j * 3 from by omega, ← List.drop_drop] at this)
    have hv : ∀ k, v1.ownBlock = some k → base ≤ k ∧ ok k ∧ f k = j0 := fun k hk => ⟨Kd.R_base hR k hk, (hR.1 k hk).1, (hR.1 k hk).2⟩
    refine ⟨obs v1 ++ fp, ⟨v1, inner.drop 3, fp, ?_, rfl, own_weaken ho (Nat.zero_le _), a1⟩, ?_, fun k hk => ?_⟩
    · have e3 : inner.take 3 = [.string b.f0, v1, .int .i64 b.f2] := by simpa using e1
      rw [← e3, List.take_append_drop]
    · rw [List.nodup_append]
      refine ⟨by unfold obs; cases v1.ownBlock <;> simp, a2, fun x hx y hy he => ?_⟩
      have h1 := (hv x (obs_mem.1 hx)).2.2
      have h2 := (a3 y hy).2.2
      subst he
      omega
    · rcases List.mem_append.1 hk with q | q
      · have := hv k (obs_mem.1 q)
        exact ⟨this.1, this.2.1, by omega⟩
      · have := a3 k q
        exact ⟨this.1, this.2.1, by omega⟩
theorem NewB.ofS {w : World} {base : Nat} {v : Value} {l : List Bd} (h : Kd.S kB 66 w base (fun _ => True) v l) : NewB base w l v := by
  obtain ⟨f, h0, inner, ho, hr⟩ := h
  rw [List.length_zipIdx] at ho
  have hl : inner.length = l.length * 3 := by have := hr.1; rw [List.length_zipIdx] at this; exact this
  obtain ⟨fp, a1, a2, a3⟩ := bdl_ofS l 0 inner hl (fun j p hj => hr.2 j p hj)
  refine ⟨inner, fp, own_weaken ho (Nat.zero_le _), a1, ?_, fun b hb => ?_⟩
  · rw [List.nodup_append]
    refine ⟨by unfold obs; cases v.ownBlock <;> simp, a2, fun x hx y hy he => ?_⟩
    subst he
    exact (a3 x hy).2.1.2 (obs_mem.1 hx).symm
  · rcases List.mem_append.1 hb with q | q
    · exact (by have := ho; rcases this with ⟨_, ⟨rfl, _⟩ | ⟨g, cap, cur, rfl, hg, _⟩⟩; (exact absurd (obs_mem.1 q) (by simp [Value.ownBlock])); (have h9 : g = b := by simpa [Value.ownBlock] using obs_mem.1 q); omega)
    · exact (a3 b q).1
theorem specAddB_any (l : List Bd) (A : Option Addr) (c : Nat) (x : Fm) (A3 : Option Addr) (c3 : Nat) (A4 : Option Addr) (c4 : Nat) (id : Int) (w : World) (hr : kB.C w A l.length l) (hc : l.length ≤ c) (hx : FmIn w x A3 c3 A4 c4) (hs : SmB l) (ht : x.tot ≤ 1048576) :
    Calls Try.prog 25 #[.slice A l.length c, .agg #[.int .i64 x.f0, .string x.f1, .int .i64 x.f2, .slice A3 x.f3.length c3, .slice A4 x.f4.length c4], .int .i64 id] w (fun e w' => ∃ v, e = .returned (.tuple #[v, .bool (addBindR l x id).2]) ∧ NewB w.heap.size w' (addBindR l x id).1 v ∧ Below w.heap.size w w') := by
  obtain ⟨k, hk⟩ := (ev_specAddBind hs ht id).rounds
  refine (Q.spec_AddBind.calls k A c l x.f0 x.f1 x.f2 A3 c3 x.f3 A4 c4 x.f4 id _ _ w hr hc hx.g3 hx.l3 hx.g4 hx.l4 hk).mono ?_
  rintro e w' ⟨v, rfl, hS, hb⟩
  exact ⟨v, rfl, NewB.ofS hS, hb⟩
theorem implAddB_any (l : List Bd) (A : Option Addr) (c : Nat) (x : Fm) (A3 : Option Addr) (c3 : Nat) (A4 : Option Addr) (c4 : Nat) (id : Int) (w : World) (hr : kB.C w A l.length l) (hc : l.length ≤ c) (hx : FmIn w x A3 c3 A4 c4) (hs : SmB l) (ht : x.tot ≤ 1048576) :
    Calls Try.prog 26 #[.slice A l.length c, .agg #[.int .i64 x.f0, .string x.f1, .int .i64 x.f2, .slice A3 x.f3.length c3, .slice A4 x.f4.length c4], .int .i64 id] w (fun e w' => ∃ v, e = .returned (.tuple #[v, .bool (addBindR l x id).2]) ∧ NewB w.heap.size w' (addBindR l x id).1 v ∧ Below w.heap.size w w') := by
  obtain ⟨k, hk⟩ := (ev_implAddBind hs ht id).rounds
  refine (Q.impl_AddBind.calls k A c l x.f0 x.f1 x.f2 A3 c3 x.f3 A4 c4 x.f4 id _ _ w hr hc hx.g3 hx.l3 hx.g4 hx.l4 hk).mono ?_
  rintro e w' ⟨v, rfl, hS, hb⟩
  exact ⟨v, rfl, NewB.ofS hS, hb⟩
end Go.Proofs.Ytlklclebjeeaaaa
end
section
namespace Go.Proofs.Ytlklclebjeeaaaa
open Go.RowKit Go.Proofs.YtlklclebjeeaaaaW.PrintWords Go.Proofs.YtlklclebjeeaaaaW.PrintLast Go.Proofs.YtlklclebjeeaaaaW.PrintMore
set_option linter.unusedVariables false
set_option linter.unusedSimpArgs false
set_option maxHeartbeats 4000000 in
set_option maxRecDepth 100000 in
theorem heldBindS_any (l : List Bd) (A : Option Addr) (c : Nat) (k : Int) (w : World) (hr : kB.C w A l.length (markB l k)) (hc : l.length ≤ c) (hk0 : 1 ≤ k) (hk1 : k + cntB l ≤ 1000000000) :
    Calls Try.prog 27 #[.slice A l.length c, .int .i64 k] w (Ret w (.int .i64 (k + cntB l))) := by
  have hmax := hr.2.1
  go_enter Try.func27, Try.ntmps27
  go_wp2_with fail
  go_loopg [1, 5] l.length (fun kq v1 v5 w' => ∃ i : Nat, i ≤ l.length ∧ l.length - i ≤ kq ∧ v5 = .int .i64 i ∧ v1 = .int .i64 (k + (cntB (l.take i) : Int)) ∧ Aside0 (Below w.heap.size w w'))
  case atStart => exact ⟨0, Nat.zero_le _, by omega, rfl, by simp [cntB], ⟨Below.refl _ _⟩⟩
  case round =>
    obtain ⟨i, hi, hg, rfl, rfl, HW⟩ := hrel
    by_cases hlt : i < l.length
    · obtain ⟨ad, G1, m1, e, g0, g1, g2, hk⟩ := bd_at (Kd.C_below hr HW.out) i (by rw [markB_length]; exact hlt)
      subst e
      rw [markB_get l k i hlt] at g0 g1 g2 hk
      have hct := cntB_take l i hlt
      have hcle := cntB_take_le l (i + 1)
      generalize hK : k + (cntB (l.take i) : Int) = K at g0 g1 g2 hk
      simp only at g0 g1 g2
      have g1' : wr.cell? ⟨(ad.add (i * 3)).block, (ad.add (i * 3)).off + 1, none⟩ = some (.slice G1 l[i].f1.length m1) := by rw [g1]; simp [markI_length]
      have p1 : (0 : Int) ≤ (i : Int) := by omega
      have p2 : (i : Int) < (l.length : Int) := by omega
      have n0 : ((mt K).toList != (mt K).toList) = false := by simp
      have k1 : kI.C wr G1 l[i].f1.length (markI l[i].f1.length (K + 1)) := by
        have h := hk.g1
        simpa only [markI_length] using h
      have l1 : l[i].f1.length ≤ m1 := by have h := hk.l1; simpa [markI_length] using h
      have MT := Lib.hid (fun W => markTextZ K W (by omega) (by omega))
      have HI := Lib.hid (fun W hb => heldIntS_any l[i].f1.length G1 m1 (K + 1) W (Kd.C_below k1 hb) l1 (by omega) (by omega))
      have t1 : decide (K + 1 + (l[i].f1.length : Int) < 0) = false := decide_eq_false (by omega)
      have j0 : ((K + 1 + (l[i].f1.length : Int)) != (K + 1 + (l[i].f1.length : Int))) = false := by simp
      have HC := Lib.hid hct
      have HKK := Lib.hid hK
      have b1 : 1 ≤ K := by omega
      have b2 : K + 2 + l[i].f1.length ≤ 1000000000 := by omega
      clear g1 hk k1 l1 hct hcle hK
      go_wp2_with fail
      go_region_held3 (fun w' => w'.cell? (ad.add (i * 3)) = some (.string (mt K))) (first | go_keep | exact ck hb1 g0) ((go_at_call 54; refine (MT.out _).mono ?_; rintro e w1 ⟨rfl, hb1⟩))
      have q1 := ck hb1 g1'
      have q2 := ck hb1 g2
      have B1 := Lib.hid (below_step (Below.refl _ _).drew hb1)
      clear hb1
      go_wp2_with fail
      refine (HI.out _ B1.out).mono ?_
      rintro e w2 ⟨rfl, hb2⟩
      have r2 := ck0 hb2 q2
      have B2 := Lib.hid (below_step HW.out (below_step B1.out hb2))
      clear hb2
      go_wp2_with fail
      go_roundg (l.length - (i + 1))
      case measure => omega
      case rel =>
        have hc := HC.out
        have hk := HKK.out
        exact ⟨i + 1, by omega, Nat.le_refl _, by go_num, by rw [hc, ← hk]; go_num, ⟨B2.out⟩⟩
    · obtain rfl : i = l.length := by omega
      have HT : Hid (l.take l.length = l) := List.take_length
      go_wp2_with fail
      go_ret
      exact ⟨ret_i (by rw [HT.out]), HW.out⟩
theorem heldBindS_own {lo hi : Nat} {w : World} {l : List Bd} {A : Option Addr} {c : Nat} (k : Int) (h : OwnB lo hi w (markB l k) (.slice A l.length c)) (hk0 : 1 ≤ k) (hk1 : k + 2 * (l.length + totB l) ≤ 1000000000) :
    Calls Try.prog 27 #[.slice A l.length c, .int .i64 k] w (Ret w (.int .i64 (k + cntB l))) := by
  have hcn := cntB_tot l
  have e := markB_length l k
  have h2 : OwnB lo hi w (markB l k) (.slice A (markB l k).length c) := by rw [e]; exact h
  have h3 := h2.now
  rw [e] at h3
  exact heldBindS_any l A c k w h3.2 h3.1 hk0 (by omega)
theorem addBindR_tot (l : List Bd) (x : Fm) (id : Int) : (addBindR l x id).1.length + totB (addBindR l x id).1 ≤ l.length + totB l + 1 + x.tot := by
  have h1 : x.f1.size + x.f3.length ≤ x.tot := by rw [Fm.tot_eq]; omega
  have h2 : ∀ (a b : List Bd), totB (a ++ b) = totB a + totB b := by
    intro a b
    induction a with
    | nil => simp [totB]
    | cons y a ih => simp only [List.cons_append, totB, ih]; omega
  unfold addBindR
  split
  · split
    · simp only [List.length_append, List.length_singleton, h2, totB]; omega
    · simp [totB]
  · simp [totB]
def GetOBT (w : World) (l : List Bd) (b : Bool) (e : Ending) (w' : World) : Prop := ∃ A c, e = .returned (.tuple #[.slice A l.length c, .bool b]) ∧ OwnB w.heap.size w'.heap.size w' l (.slice A l.length c) ∧ Below w.heap.size w w'
theorem specAddBO {l r : List Bd} {x : Fm} {id : Int} {b : Bool} (hz : addBindR l x id = (r, b)) (A : Option Addr) (c : Nat) (A3 : Option Addr) (c3 : Nat) (A4 : Option Addr) (c4 : Nat) (w : World) (hr : kB.C w A l.length l) (hc : l.length ≤ c) (hx : FmIn w x A3 c3 A4 c4) (hs : SmB l) (ht : x.tot ≤ 1048576) :
    Calls Try.prog 25 #[.slice A l.length c, .agg #[.int .i64 x.f0, .string x.f1, .int .i64 x.f2, .slice A3 x.f3.length c3, .slice A4 x.f4.length c4], .int .i64 id] w (GetOBT w r b) := by
  refine (specAddB_any l A c x A3 c3 A4 c4 id w hr hc hx hs ht).mono ?_
  rw [hz]
  rintro e w' ⟨v, rfl, hn, hb⟩
  obtain ⟨B, d, rfl, ho⟩ := hn.own
  exact ⟨B, d, rfl, ho, hb⟩
theorem implAddBO {l r : List Bd} {x : Fm} {id : Int} {b : Bool} (hz : addBindR l x id = (r, b)) (A : Option Addr) (c : Nat) (A3 : Option Addr) (c3 : Nat) (A4 : Option Addr) (c4 : Nat) (w : World) (hr : kB.C w A l.length l) (hc : l.length ≤ c) (hx : FmIn w x A3 c3 A4 c4) (hs : SmB l) (ht : x.tot ≤ 1048576) :
    Calls Try.prog 26 #[.slice A l.length c, .agg #[.int .i64 x.f0, .string x.f1, .int .i64 x.f2, .slice A3 x.f3.length c3, .slice A4 x.f4.length c4], .int .i64 id] w (GetOBT w r b) := by
  refine (implAddB_any l A c x A3 c3 A4 c4 id w hr hc hx hs ht).mono ?_
  rw [hz]
  rintro e w' ⟨v, rfl, hn, hb⟩
  obtain ⟨B, d, rfl, ho⟩ := hn.own
  exact ⟨B, d, rfl, ho, hb⟩
end Go.Proofs.Ytlklclebjeeaaaa
end
