/- Words for the laws' proofs (part 4): contracts of functions, and plain lemmas. -/
import Derived.ChangeSlices
import Derived.Deep.RegionHeld3
import Derived.Deep.Slices
import Derived.KernelRfl
import Derived.Lib.SmallJoins
import Derived.OpenShut
import Derived.ProofKit
import Derived.SizedLaws
import Derived.Test.YteeepenncddnjaaDoorProg
import Derived.Test.YteeepenncddnjaaDoorKd1
import Derived.Test.YteeepenncddnjaaDoorKd2
import Derived.Test.YteeepenncddnjaaDoorKd3
section
namespace Go.Proofs.YteeepenncddnjaaDoor.Q
open Go.RowKit Go.Proofs.YteeepenncddnjaaDoorW.PrintWords Go.Proofs.YteeepenncddnjaaDoorW.PrintLast Go.Proofs.YteeepenncddnjaaDoorW.PrintMore
attribute [local go_sem] max2_int min2_int max_two min_two max_three min_three max_four min_four   -- for this text's walks alone
set_option linter.unusedVariables false
set_option linter.unusedSimpArgs false

noncomputable def spec_l3Is.f (a0_0 : Int) (a0_1 : ByteArray) (a0_2 : Int) (l0_3 : List Int) (l0_4 : List (S26)) : Option (Bool) := if a0_0 = 1 then ((spec_FormValid.f a0_0 a0_1 a0_2 l0_3 l0_4).bind fun t316 => (some t316)) else (some false)
set_option maxHeartbeats 8000000 in
set_option maxRecDepth 100000 in
theorem spec_l3Is.calls (a0_0 : Int) (a0_1 : ByteArray) (a0_2 : Int) (A0_3 : Option Addr) (c0_3 : Nat) (l0_3 : List Int) (A0_4 : Option Addr) (c0_4 : Nat) (l0_4 : List (S26)) (r : Bool) (w : World) (hr0_3 : Kd.C (Kd.int .i64) w A0_3 l0_3.length l0_3) (hc0_3 : l0_3.length ≤ c0_3) (hr0_4 : Kd.C k26 w A0_4 l0_4.length l0_4) (hc0_4 : l0_4.length ≤ c0_4) (h : spec_l3Is.f a0_0 a0_1 a0_2 l0_3 l0_4 = some r) :
    Calls Tryd.prog 84 #[.agg #[.int .i64 a0_0, .string a0_1, .int .i64 a0_2, .slice A0_3 l0_3.length c0_3, .slice A0_4 l0_4.length c0_4]] w fun e w' => e = .returned (.bool r) ∧ Below w.heap.size w w' := by
  have hu26 := Tryd.underlying26
  have HR0_3 := Aside0.mk hr0_3
  have HC0_3 := Aside0.mk hc0_3
  clear hr0_3 hc0_3
  have HR0_4 := Aside0.mk hr0_4
  have HC0_4 := Aside0.mk hc0_4
  clear hr0_4 hc0_4
  have HB := Aside0.mk (Below.refl w.heap.size w)
  have H : (if a0_0 = 1 then ((spec_FormValid.f a0_0 a0_1 a0_2 l0_3 l0_4).bind fun t316 => (some t316)) else (some false)) = some r := h
  clear h
  by_cases c2 : a0_0 = 1
  · rw [if_pos c2] at H
    have c2b0 : (a0_0 == 1) = true := beq_iff_eq.mpr c2
    have c2b1 : (a0_0 != 1) = false := bne_eq_false_iff_eq.mpr c2
    clear c2
    replace H := Option.bind_eq_some_iff.mp H
    obtain ⟨t316, A30, H⟩ := H
    replace H : (some t316) = some r := H
    have A3 := Aside0.mk A30
    clear A30
    obtain rfl := Option.some.inj H
    go_enter Tryd.func84, Tryd.ntmps84
    go_wp2_with (first | ((with_reducible refine gate_dst (N := 1) rfl ?_); refine box_event ?hg (N := 1) ?hd (cs := #[.int .i64 a0_0, .string a0_1, .int .i64 a0_2, .slice A0_3 l0_3.length c0_3, .slice A0_4 l0_4.length c0_4]) (t := 26) ?hr ?_; (case hd => rfl); (case hg => rfl); (case hr => first | (go_simp; done) | (go_simp; rfl)); intro gb315 hg w4 hbox hb; have n0_ := Aside0.mk (below_step (by repeat (first | (with_reducible first | exact HB.out | apply below_alloc | apply pw_below_drewN | apply below_drew1) | exact HB.out)) hb); have n1_ := Aside0.mk (hbox); have n2_ := Aside0.mk ((by rw [hg]; exact (below_size (by repeat (first | (with_reducible first | exact HB.out | apply below_alloc | apply pw_below_drewN | apply below_drew1) | exact HB.out))) : w.heap.size ≤ gb315)); have n3_ := Aside0.mk ((by rw [hg]; exact (below_size (by repeat (first | (with_reducible first | exact HB.out | apply below_alloc | apply pw_below_drewN | apply below_drew1) | exact HB.out))) : w.heap.size ≤ gb315)); clear HB; have HB := n0_; have BK315 := n1_; have GW315 := n2_; have GE315 := n3_; clear n0_ n1_ n2_ n3_; clear hb hbox hg; have hcz5_0 : w4.cell? ⟨gb315, 0, none⟩ = some (.int .i64 a0_0) := (blk_cell BK315.out 0).trans rfl; have hcz5_1 : w4.cell? ⟨gb315, 1, none⟩ = some (.string a0_1) := (blk_cell BK315.out 1).trans rfl; have hcz5_2 : w4.cell? ⟨gb315, 2, none⟩ = some (.int .i64 a0_2) := (blk_cell BK315.out 2).trans rfl; have hcz5_3 : w4.cell? ⟨gb315, 3, none⟩ = some (.slice A0_3 l0_3.length c0_3) := (blk_cell BK315.out 3).trans rfl; have hcz5_4 : w4.cell? ⟨gb315, 4, none⟩ = some (.slice A0_4 l0_4.length c0_4) := (blk_cell BK315.out 4).trans rfl; have hfz5_0 := blk_frozen BK315.out 0; have hfz5_1 := blk_frozen BK315.out 1; have hfz5_2 := blk_frozen BK315.out 2; have hfz5_3 := blk_frozen BK315.out 3; have hfz5_4 := blk_frozen BK315.out 4) | (go_at_call 39; (with_reducible refine (spec_FormValid.calls a0_0 a0_1 a0_2 _ _ l0_3 _ _ l0_4 t316 _ ?side1 ?side2 ?side3 ?side4 A3.out).mono ?_); (case side1 => repeat (first | exact (Kd.C_below HR0_3.out HB.out) | (with_reducible refine Kd.C_alloc ?_ _) | (with_reducible refine Kd.C_drewN ?_ _) | (with_reducible refine Kd.C_drew ?_))); (case side2 => exact HC0_3.out); (case side3 => repeat (first | exact (Kd.C_below HR0_4.out HB.out) | (with_reducible refine Kd.C_alloc ?_ _) | (with_reducible refine Kd.C_drewN ?_ _) | (with_reducible refine Kd.C_drew ?_))); (case side4 => exact HC0_4.out); rintro e w6 ⟨rfl, hb⟩; have n0_ := Aside0.mk (blk_below (g := gb315) (o := .cells #[.int .i64 a0_0, .string a0_1, .int .i64 a0_2, .slice A0_3 l0_3.length c0_3, .slice A0_4 l0_4.length c0_4] 26 (0, 0)) (by (with_reducible repeat (first | refine blk_drewN ?_ _ | refine blk_drew ?_ | refine blk_alloc ?_ _)); exact BK315.out) hb); have n1_ := Aside0.mk (below_step (by repeat (first | (with_reducible first | exact HB.out | apply below_alloc | apply pw_below_drewN | apply below_drew1 | refine below_set ?_ GE315.out) | exact HB.out)) hb); clear BK315; clear HB; have BK315 := n0_; have HB := n1_; clear n0_ n1_; (try clear hb); (try clear hb2); (try clear hk); (try clear hi)))
    go_ret
    exact ⟨by first | rfl | (simp [errW_none, errW_some] <;> rfl) | (simp [*, errW_none, errW_some] <;> rfl), by repeat (first | (with_reducible first | exact HB.out | apply below_alloc | apply pw_below_drewN | apply below_drew1 | refine below_set ?_ GE315.out) | exact HB.out)⟩
  · rw [if_neg c2] at H
    have c2b0 : (a0_0 == 1) = false := beq_eq_false_iff_ne.mpr c2
    have c2b1 : (a0_0 != 1) = true := bne_iff_ne.mpr c2
    obtain rfl := Option.some.inj H
    go_enter Tryd.func84, Tryd.ntmps84
    go_wp2_with (first | ((with_reducible refine gate_dst (N := 1) rfl ?_); refine box_event ?hg (N := 1) ?hd (cs := #[.int .i64 a0_0, .string a0_1, .int .i64 a0_2, .slice A0_3 l0_3.length c0_3, .slice A0_4 l0_4.length c0_4]) (t := 26) ?hr ?_; (case hd => rfl); (case hg => rfl); (case hr => first | (go_simp; done) | (go_simp; rfl)); intro gb315 hg w7 hbox hb; have n0_ := Aside0.mk (below_step (by repeat (first | (with_reducible first | exact HB.out | apply below_alloc | apply pw_below_drewN | apply below_drew1) | exact HB.out)) hb); have n1_ := Aside0.mk (hbox); have n2_ := Aside0.mk ((by rw [hg]; exact (below_size (by repeat (first | (with_reducible first | exact HB.out | apply below_alloc | apply pw_below_drewN | apply below_drew1) | exact HB.out))) : w.heap.size ≤ gb315)); have n3_ := Aside0.mk ((by rw [hg]; exact (below_size (by repeat (first | (with_reducible first | exact HB.out | apply below_alloc | apply pw_below_drewN | apply below_drew1) | exact HB.out))) : w.heap.size ≤ gb315)); clear HB; have HB := n0_; have BK315 := n1_; have GW315 := n2_; have GE315 := n3_; clear n0_ n1_ n2_ n3_; clear hb hbox hg; have hcz8_0 : w7.cell? ⟨gb315, 0, none⟩ = some (.int .i64 a0_0) := (blk_cell BK315.out 0).trans rfl; have hcz8_1 : w7.cell? ⟨gb315, 1, none⟩ = some (.string a0_1) := (blk_cell BK315.out 1).trans rfl; have hcz8_2 : w7.cell? ⟨gb315, 2, none⟩ = some (.int .i64 a0_2) := (blk_cell BK315.out 2).trans rfl; have hcz8_3 : w7.cell? ⟨gb315, 3, none⟩ = some (.slice A0_3 l0_3.length c0_3) := (blk_cell BK315.out 3).trans rfl; have hcz8_4 : w7.cell? ⟨gb315, 4, none⟩ = some (.slice A0_4 l0_4.length c0_4) := (blk_cell BK315.out 4).trans rfl; have hfz8_0 := blk_frozen BK315.out 0; have hfz8_1 := blk_frozen BK315.out 1; have hfz8_2 := blk_frozen BK315.out 2; have hfz8_3 := blk_frozen BK315.out 3; have hfz8_4 := blk_frozen BK315.out 4))
    go_ret
    exact ⟨by first | rfl | (simp [errW_none, errW_some] <;> rfl) | (simp [*, errW_none, errW_some] <;> rfl), by repeat (first | (with_reducible first | exact HB.out | apply below_alloc | apply pw_below_drewN | apply below_drew1 | refine below_set ?_ GE315.out) | exact HB.out)⟩

noncomputable def spec_AddBind.j0 : Nat → List (S60) → Int → Bool → Int → ByteArray → Int → List Int → List (S26) → Option ((List (S60)) × Bool)
  | 0, _, _, _, _, _, _, _, _ => none
  | k + 1, x0, x2, x16, x318000, x318001, x318002, x318003, x318004 => if x16 = true then (some ((([] : List (S60))), false)) else ((spec_l3Copy.f k x0).bind fun t323 => ((some (([] : List Int) : List Int)).bind fun y326 => (if y326.length + x318003.length < 17592186044416 then (if t323.length < 2932031007402 then ((some (t323 ++ [(⟨x318001, (y326 ++ x318003), x2⟩ : S60)] : List (S60))).bind fun y332 => ((spec_BindsValid.f k y332).bind fun t335 => (if t335 = true then (some (y332, true)) else (some ((([] : List (S60))), false))))) else (none)) else (none))))
noncomputable def spec_AddBind.f (k : Nat) (l0 : List (S60)) (a1_0 : Int) (a1_1 : ByteArray) (a1_2 : Int) (l1_3 : List Int) (l1_4 : List (S26)) (a2 : Int) : Option ((List (S60)) × Bool) := (spec_BindsValid.f k l0).bind fun t318 => (if t318 = true then ((spec_l3Is.f a1_0 a1_1 a1_2 l1_3 l1_4).bind fun t319 => (spec_AddBind.j0 k l0 a2 (!t319) a1_0 a1_1 a1_2 l1_3 l1_4)) else (spec_AddBind.j0 k l0 a2 true a1_0 a1_1 a1_2 l1_3 l1_4))
theorem spec_AddBind.mono_l : ∀ k, (∀ y0 y1 y2 y3 y4 y5 y6 y7, LeO (spec_AddBind.j0 k y0 y1 y2 y3 y4 y5 y6 y7) (spec_AddBind.j0 (k + 1) y0 y1 y2 y3 y4 y5 y6 y7))
  | 0 => fun _ _ _ _ _ _ _ _ r h => by simp [spec_AddBind.j0] at h
  | k + 1 => by
    have ih0 := spec_AddBind.mono_l k
    · intro y0 y1 y2 y3 y4 y5 y6 y7
      unfold spec_AddBind.j0
      repeat' first
      | (with_reducible exact ih0 _ _ _ _ _ _ _ _)
      | (with_reducible exact spec_BindsValid.mono _ _)
      | (with_reducible exact spec_l3Copy.mono _ _)
      | (with_reducible exact LeO.refl _)
      | (with_reducible exact LeO.none _)
      | (with_reducible refine LeO.ite ?_ ?_)
      | (with_reducible refine LeO.bind ?_ (fun _ => ?_))
      | exact ih0 _ _ _ _ _ _ _ _
      | exact spec_BindsValid.mono _ _
      | exact spec_l3Copy.mono _ _
      | exact LeO.none _
      | refine LeO.ite ?_ ?_
      | refine LeO.bind ?_ (fun _ => ?_)
theorem spec_AddBind.mono : ∀ a0 a1 a2 a3 a4 a5 a6 k, LeO (spec_AddBind.f k a0 a1 a2 a3 a4 a5 a6) (spec_AddBind.f (k + 1) a0 a1 a2 a3 a4 a5 a6) := by
  intro a0 a1 a2 a3 a4 a5 a6 k
  have ih0 := spec_AddBind.mono_l k
  unfold spec_AddBind.f
  repeat' first
      | (with_reducible exact ih0 _ _ _ _ _ _ _ _)
      | (with_reducible exact spec_BindsValid.mono _ _)
      | (with_reducible exact spec_l3Copy.mono _ _)
      | (with_reducible exact LeO.refl _)
      | (with_reducible exact LeO.none _)
      | (with_reducible refine LeO.ite ?_ ?_)
      | (with_reducible refine LeO.bind ?_ (fun _ => ?_))
      | exact ih0 _ _ _ _ _ _ _ _
      | exact spec_BindsValid.mono _ _
      | exact spec_l3Copy.mono _ _
      | exact LeO.none _
      | refine LeO.ite ?_ ?_
      | refine LeO.bind ?_ (fun _ => ?_)
noncomputable def spec_AddBind.T3 : Bool × List (List Nat × List Nat) := (true, [([], []), ([0], [0]), ([], []), ([2], [2]), ([], []), ([], []), ([5], [5]), ([4, 6, 1], [4, 6]), ([], []), ([3, 7, 8], [3, 7, 8]), ([9], [9]), ([1, 10, 7], [1, 10]), ([11, 11, 0, 1, 2, 3, 4, 5, 6, 7, 8, 9, 10, 11], [11])])
noncomputable def spec_AddBind.B3 : List Nat := [0, 1, 0, 4, 0, 0, 32, 115, 0, 511, 1023, 2047, 4095]
theorem spec_AddBind.tab3 : rtab .any (opsOf Tryd.f79 3) = spec_AddBind.T3 := by kernel_rfl
theorem spec_AddBind.bits3 : waitsOk spec_AddBind.T3.2 spec_AddBind.B3 = true := by kernel_rfl
set_option maxHeartbeats 8000000 in
set_option maxRecDepth 100000 in
theorem spec_AddBind.calls (k : Nat) (A0 : Option Addr) (c0 : Nat) (l0 : List (S60)) (a1_0 : Int) (a1_1 : ByteArray) (a1_2 : Int) (A1_3 : Option Addr) (c1_3 : Nat) (l1_3 : List Int) (A1_4 : Option Addr) (c1_4 : Nat) (l1_4 : List (S26)) (a2 : Int) (r1 : List (S60)) (r2 : Bool) (w : World) (hr0 : Kd.C k60 w A0 l0.length l0) (hc0 : l0.length ≤ c0) (hr1_3 : Kd.C (Kd.int .i64) w A1_3 l1_3.length l1_3) (hc1_3 : l1_3.length ≤ c1_3) (hr1_4 : Kd.C k26 w A1_4 l1_4.length l1_4) (hc1_4 : l1_4.length ≤ c1_4) (h : spec_AddBind.f k l0 a1_0 a1_1 a1_2 l1_3 l1_4 a2 = some (r1, r2)) :
    Calls Tryd.prog 79 #[.slice A0 l0.length c0, .agg #[.int .i64 a1_0, .string a1_1, .int .i64 a1_2, .slice A1_3 l1_3.length c1_3, .slice A1_4 l1_4.length c1_4], .int .i64 a2] w fun e w' => ∃ v0_ : Value, e = .returned (.tuple #[v0_, .bool r2]) ∧ Kd.S k60 60 w' w.heap.size (fun _ => True) v0_ r1 ∧ Below w.heap.size w w' := by
  have hu26 := Tryd.underlying26
  have hu60 := Tryd.underlying60
  have HR0 := Aside0.mk hr0
  have HC0 := Aside0.mk hc0
  clear hr0 hc0
  have HR1_3 := Aside0.mk hr1_3
  have HC1_3 := Aside0.mk hc1_3
  clear hr1_3 hc1_3
  have HR1_4 := Aside0.mk hr1_4
  have HC1_4 := Aside0.mk hc1_4
  clear hr1_4 hc1_4
  have HB := Aside0.mk (Below.refl w.heap.size w)
  have H : ((spec_BindsValid.f k l0).bind fun t318 => (if t318 = true then ((spec_l3Is.f a1_0 a1_1 a1_2 l1_3 l1_4).bind fun t319 => (spec_AddBind.j0 k l0 a2 (!t319) a1_0 a1_1 a1_2 l1_3 l1_4)) else (spec_AddBind.j0 k l0 a2 true a1_0 a1_1 a1_2 l1_3 l1_4))) = some (r1, r2) := h
  clear h
  have HC4 := Aside0.mk H
  clear H
  go_enter Tryd.func79, Tryd.ntmps79
  go_upto_region 1 with (first | ((with_reducible refine gate_dst (N := 4) rfl ?_); refine box_event ?hg (N := 4) ?hd (cs := #[.int .i64 a1_0, .string a1_1, .int .i64 a1_2, .slice A1_3 l1_3.length c1_3, .slice A1_4 l1_4.length c1_4]) (t := 26) ?hr ?_; (case hd => rfl); (case hg => rfl); (case hr => first | (go_simp; done) | (go_simp; rfl)); intro gb317 hg w5 hbox hb; have n0_ := Aside0.mk (below_step (by repeat (first | (with_reducible first | exact HB.out | apply below_alloc | apply pw_below_drewN | apply below_drew1) | exact HB.out)) hb); have n1_ := Aside0.mk (hbox); have n2_ := Aside0.mk ((by rw [hg]; exact (below_size (by repeat (first | (with_reducible first | exact HB.out | apply below_alloc | apply pw_below_drewN | apply below_drew1) | exact HB.out))) : w.heap.size ≤ gb317)); have n3_ := Aside0.mk ((by rw [hg]; exact (below_size (by repeat (first | (with_reducible first | exact HB.out | apply below_alloc | apply pw_below_drewN | apply below_drew1) | exact HB.out))) : w.heap.size ≤ gb317)); clear HB; have HB := n0_; have BK317 := n1_; have GW317 := n2_; have GE317 := n3_; clear n0_ n1_ n2_ n3_; clear hb hbox hg))
  (try simp only [Act.put, List.setIfInBounds_toArray, List.set_cons_zero, List.set_cons_succ])
  go_cut [16] (fun v16 wc => ∃ (kq : Nat) (x16_3 : Bool), v16 = .bool x16_3 ∧ Aside0 (spec_AddBind.j0 kq l0 a2 x16_3 a1_0 a1_1 a1_2 l1_3 l1_4 = some (r1, r2)) ∧ Aside0 (kq ≤ k) ∧ Aside0 (wc.heap[gb317]? = some (.cells #[.int .i64 a1_0, .string a1_1, .int .i64 a1_2, (.slice A1_3 l1_3.length c1_3), (.slice A1_4 l1_4.length c1_4)] 26 (0, 0))) ∧ Aside0 (Below w.heap.size w wc))
  case first =>
    have H := HC4.out
    clear HC4
    replace H := Option.bind_eq_some_iff.mp H
    obtain ⟨t318, A60, H⟩ := H
    replace H : (if t318 = true then ((spec_l3Is.f a1_0 a1_1 a1_2 l1_3 l1_4).bind fun t319 => (spec_AddBind.j0 k l0 a2 (!t319) a1_0 a1_1 a1_2 l1_3 l1_4)) else (spec_AddBind.j0 k l0 a2 true a1_0 a1_1 a1_2 l1_3 l1_4)) = some (r1, r2) := H
    have A6 := Aside0.mk A60
    clear A60
    by_cases c7 : t318 = true
    · subst c7
      have H1 : ((spec_l3Is.f a1_0 a1_1 a1_2 l1_3 l1_4).bind fun t319 => (spec_AddBind.j0 k l0 a2 (!t319) a1_0 a1_1 a1_2 l1_3 l1_4)) = some (r1, r2) := by rw [if_pos rfl] at H; exact H
      clear H
      have H := H1
      clear H1
      replace H := Option.bind_eq_some_iff.mp H
      obtain ⟨t319, A80, H⟩ := H
      replace H : (spec_AddBind.j0 k l0 a2 (!t319) a1_0 a1_1 a1_2 l1_3 l1_4) = some (r1, r2) := H
      have A8 := Aside0.mk A80
      clear A80
      have H' := Aside0.mk H
      clear H
      go_wp2_with (first | ((with_reducible refine gate_callee (f := 21) rfl ?_); refine goesL_ (some 10) rfl rfl Tryd.func21 (by kernel_rfl) rfl #[.slice A0 l0.length c0] rfl (by (try simp only [List.map_toArray, List.map_cons, List.map_nil]); first | done | rfl | (simp only [List.length_drop, List.length_take]; rfl)) ?_; (with_reducible refine (spec_BindsValid.calls k _ _ l0 true _ ?side1 ?side2 A6.out).mono ?_); (case side1 => repeat (first | exact (Kd.C_below HR0.out HB.out) | (with_reducible refine Kd.C_alloc ?_ _) | (with_reducible refine Kd.C_drewN ?_ _) | (with_reducible refine Kd.C_drew ?_))); (case side2 => exact HC0.out); rintro e w9 ⟨rfl, hb⟩; refine ⟨_, rfl, ?_⟩; have n0_ := Aside0.mk (blk_below (g := gb317) (o := .cells #[.int .i64 a1_0, .string a1_1, .int .i64 a1_2, .slice A1_3 l1_3.length c1_3, .slice A1_4 l1_4.length c1_4] 26 (0, 0)) (by (with_reducible repeat (first | refine blk_drewN ?_ _ | refine blk_drew ?_ | refine blk_alloc ?_ _)); exact BK317.out) hb); have n1_ := Aside0.mk (below_step (by repeat (first | (with_reducible first | exact HB.out | apply below_alloc | apply pw_below_drewN | apply below_drew1 | refine below_set ?_ GE317.out) | exact HB.out)) hb); clear BK317; clear HB; have BK317 := n0_; have HB := n1_; clear n0_ n1_; (try clear hb); (try clear hb2); (try clear hk); (try clear hi); have hcz10_0 : w9.cell? ⟨gb317, 0, none⟩ = some (.int .i64 a1_0) := (blk_cell BK317.out 0).trans rfl; have hcz10_1 : w9.cell? ⟨gb317, 1, none⟩ = some (.string a1_1) := (blk_cell BK317.out 1).trans rfl; have hcz10_2 : w9.cell? ⟨gb317, 2, none⟩ = some (.int .i64 a1_2) := (blk_cell BK317.out 2).trans rfl; have hcz10_3 : w9.cell? ⟨gb317, 3, none⟩ = some (.slice A1_3 l1_3.length c1_3) := (blk_cell BK317.out 3).trans rfl; have hcz10_4 : w9.cell? ⟨gb317, 4, none⟩ = some (.slice A1_4 l1_4.length c1_4) := (blk_cell BK317.out 4).trans rfl; have hfz10_0 := blk_frozen BK317.out 0; have hfz10_1 := blk_frozen BK317.out 1; have hfz10_2 := blk_frozen BK317.out 2; have hfz10_3 := blk_frozen BK317.out 3; have hfz10_4 := blk_frozen BK317.out 4) | (go_at_call 84; (with_reducible refine (spec_l3Is.calls a1_0 a1_1 a1_2 _ _ l1_3 _ _ l1_4 t319 _ ?side1 ?side2 ?side3 ?side4 A8.out).mono ?_); (case side1 => repeat (first | exact (Kd.C_below HR1_3.out HB.out) | (with_reducible refine Kd.C_alloc ?_ _) | (with_reducible refine Kd.C_drewN ?_ _) | (with_reducible refine Kd.C_drew ?_))); (case side2 => exact HC1_3.out); (case side3 => repeat (first | exact (Kd.C_below HR1_4.out HB.out) | (with_reducible refine Kd.C_alloc ?_ _) | (with_reducible refine Kd.C_drewN ?_ _) | (with_reducible refine Kd.C_drew ?_))); (case side4 => exact HC1_4.out); rintro e w11 ⟨rfl, hb⟩; have n0_ := Aside0.mk (blk_below (g := gb317) (o := .cells #[.int .i64 a1_0, .string a1_1, .int .i64 a1_2, .slice A1_3 l1_3.length c1_3, .slice A1_4 l1_4.length c1_4] 26 (0, 0)) (by (with_reducible repeat (first | refine blk_drewN ?_ _ | refine blk_drew ?_ | refine blk_alloc ?_ _)); exact BK317.out) hb); have n1_ := Aside0.mk (below_step (by repeat (first | (with_reducible first | exact HB.out | apply below_alloc | apply pw_below_drewN | apply below_drew1 | refine below_set ?_ GE317.out) | exact HB.out)) hb); clear BK317; clear HB; have BK317 := n0_; have HB := n1_; clear n0_ n1_; (try clear hb); (try clear hb2); (try clear hk); (try clear hi)))
      go_meet
      case rel => exact ⟨_, (!t319), (by first | rfl | (simp; done) | (simp [*]; done)), H', ⟨by first | omega | exact Nat.le_refl _⟩, ⟨by (with_reducible repeat (first | refine blk_drewN ?_ _ | refine blk_drew ?_ | refine blk_alloc ?_ _)); exact BK317.out⟩, ⟨by repeat (first | (with_reducible first | exact HB.out | apply below_alloc | apply pw_below_drewN | apply below_drew1 | refine below_set ?_ GE317.out) | exact HB.out)⟩⟩
    · replace c7 := Bool.eq_false_iff.mpr c7
      subst c7
      have H1 : (spec_AddBind.j0 k l0 a2 true a1_0 a1_1 a1_2 l1_3 l1_4) = some (r1, r2) := by rw [if_neg (show ¬ (false = true) by decide)] at H; exact H
      clear H
      have H := H1
      clear H1
      have H' := Aside0.mk H
      clear H
      go_wp2_with (first | ((with_reducible refine gate_callee (f := 21) rfl ?_); refine goesL_ (some 10) rfl rfl Tryd.func21 (by kernel_rfl) rfl #[.slice A0 l0.length c0] rfl (by (try simp only [List.map_toArray, List.map_cons, List.map_nil]); first | done | rfl | (simp only [List.length_drop, List.length_take]; rfl)) ?_; (with_reducible refine (spec_BindsValid.calls k _ _ l0 false _ ?side1 ?side2 A6.out).mono ?_); (case side1 => repeat (first | exact (Kd.C_below HR0.out HB.out) | (with_reducible refine Kd.C_alloc ?_ _) | (with_reducible refine Kd.C_drewN ?_ _) | (with_reducible refine Kd.C_drew ?_))); (case side2 => exact HC0.out); rintro e w12 ⟨rfl, hb⟩; refine ⟨_, rfl, ?_⟩; have n0_ := Aside0.mk (blk_below (g := gb317) (o := .cells #[.int .i64 a1_0, .string a1_1, .int .i64 a1_2, .slice A1_3 l1_3.length c1_3, .slice A1_4 l1_4.length c1_4] 26 (0, 0)) (by (with_reducible repeat (first | refine blk_drewN ?_ _ | refine blk_drew ?_ | refine blk_alloc ?_ _)); exact BK317.out) hb); have n1_ := Aside0.mk (below_step (by repeat (first | (with_reducible first | exact HB.out | apply below_alloc | apply pw_below_drewN | apply below_drew1 | refine below_set ?_ GE317.out) | exact HB.out)) hb); clear BK317; clear HB; have BK317 := n0_; have HB := n1_; clear n0_ n1_; (try clear hb); (try clear hb2); (try clear hk); (try clear hi)))
      go_meet
      case rel => exact ⟨_, (true), (by first | rfl | (simp; done) | (simp [*]; done)), H', ⟨by first | omega | exact Nat.le_refl _⟩, ⟨by (with_reducible repeat (first | refine blk_drewN ?_ _ | refine blk_drew ?_ | refine blk_alloc ?_ _)); exact BK317.out⟩, ⟨by repeat (first | (with_reducible first | exact HB.out | apply below_alloc | apply pw_below_drewN | apply below_drew1 | refine below_set ?_ GE317.out) | exact HB.out)⟩⟩
  case rest =>
    clear HC4
    try clear c1
    try clear c2
    try clear p2
    try clear c7
    try clear hcz10_0
    try clear hcz10_1
    try clear hcz10_2
    try clear hcz10_3
    try clear hcz10_4
    try clear hfz10_0
    try clear hfz10_1
    try clear hfz10_2
    try clear hfz10_3
    try clear hfz10_4
    obtain ⟨kq, x16_3, rfl, HA, HJ3, BK317, HB⟩ := hcut
    cases kq with
    | zero => exact absurd HA.out (by simp [spec_AddBind.j0])
    | succ kj3 =>
      have H := HA.out
      clear HA
      simp only [spec_AddBind.j0] at H
      by_cases c13 : x16_3 = true
      · subst c13
        have H1 : (some ((([] : List (S60))), false)) = some (r1, r2) := by rw [if_pos rfl] at H; exact H
        clear H
        have H := H1
        clear H1
        obtain ⟨y320, hy320⟩ : ∃ y_ : List (S60), y_ = (([] : List (S60))) := ⟨_, rfl⟩
        replace H : (some (y320, false)) = some (r1, r2) := by first | (rw [hy320]; with_reducible exact H) | (have H2_ := (Option.bind_some _ _).symm.trans H; rw [hy320]; with_reducible exact H2_) | (have H2_ := (Option.bind_some _ _).symm.trans H; with_reducible exact H2_) | with_reducible exact H | (rw [hy320]; exact H) | exact H
        have Ny320 := Aside0.mk hy320
        clear hy320
        simp only [Option.some.injEq, Prod.mk.injEq] at H
        obtain ⟨rfl, rfl⟩ := H
        go_wp2_with (first | ((with_reducible refine gate_dst (N := 17) rfl ?_); refine Kd.S_lit k60 _ 60 ?hg (N := 17) ?hd (xs := ([] : List (S60))) (inner := []) (ok := fun _ => True) (okp := fun _ => True) ?hr ?hp (fun _ hk => hk) trivial (Below.refl _ _) (Nat.le_refl _) (by simp) ?_; (case hd => rfl); (case hg => rfl); (case hr => first | (go_simp; done) | (go_simp; rfl)); (case hp => exact (Reps.none _ _)); intro v321 w14 ho15 hb hg_ hnew_; clear hg_ hnew_; (first | rw [← Ny320.out] at ho15 | (simp only [Int.reduceToNat] at ho15; rw [← Ny320.out] at ho15)); have n0_ := Aside0.mk (Kd.S_lower ho15 (below_size (by repeat (first | (with_reducible first | exact HB.out | apply below_alloc | apply pw_below_drewN | apply below_drew1 | refine below_set ?_ GE317.out) | exact HB.out)))); have n1_ := Aside0.mk (blk_below (g := gb317) (o := .cells #[.int .i64 a1_0, .string a1_1, .int .i64 a1_2, .slice A1_3 l1_3.length c1_3, .slice A1_4 l1_4.length c1_4] 26 (0, 0)) (by (with_reducible repeat (first | refine blk_drewN ?_ _ | refine blk_drew ?_ | refine blk_alloc ?_ _)); exact BK317.out) hb); have n2_ := Aside0.mk (below_step (by repeat (first | (with_reducible first | exact HB.out | apply below_alloc | apply pw_below_drewN | apply below_drew1 | refine below_set ?_ GE317.out) | exact HB.out)) hb); clear BK317; clear HB; have HO322 := n0_; have BK317 := n1_; have HB := n2_; clear n0_ n1_ n2_; clear hb ho15))
        go_ret2
        exact ⟨_, by first | rfl | (simp [errW_none, errW_some] <;> rfl) | (simp [*, errW_none, errW_some] <;> rfl), by (with_reducible repeat (first | apply Kd.S_alloc | apply Kd.S_drewN | apply Kd.S_drew)); exact HO322.out, by repeat (first | (with_reducible first | exact HB.out | apply below_alloc | apply pw_below_drewN | apply below_drew1 | refine below_set ?_ GE317.out) | exact HB.out)⟩
      · replace c13 := Bool.eq_false_iff.mpr c13
        subst c13
        have H1 : ((spec_l3Copy.f kj3 l0).bind fun t323 => ((some (([] : List Int) : List Int)).bind fun y326 => (if y326.length + l1_3.length < 17592186044416 then (if t323.length < 2932031007402 then ((some (t323 ++ [(⟨a1_1, (y326 ++ l1_3), a2⟩ : S60)] : List (S60))).bind fun y332 => ((spec_BindsValid.f kj3 y332).bind fun t335 => (if t335 = true then (some (y332, true)) else (some ((([] : List (S60))), false))))) else (none)) else (none)))) = some (r1, r2) := by rw [if_neg (show ¬ (false = true) by decide)] at H; exact H
        clear H
        have H := H1
        clear H1
        replace H := Option.bind_eq_some_iff.mp H
        obtain ⟨t323, A160, H⟩ := H
        replace H : ((some (([] : List Int) : List Int)).bind fun y326 => (if y326.length + l1_3.length < 17592186044416 then (if t323.length < 2932031007402 then ((some (t323 ++ [(⟨a1_1, (y326 ++ l1_3), a2⟩ : S60)] : List (S60))).bind fun y332 => ((spec_BindsValid.f kj3 y332).bind fun t335 => (if t335 = true then (some (y332, true)) else (some ((([] : List (S60))), false))))) else (none)) else (none))) = some (r1, r2) := H
        have A16 := Aside0.mk A160
        clear A160
        obtain ⟨y326, hy326⟩ : ∃ y_ : List Int, y_ = (([] : List Int)) := ⟨_, rfl⟩
        replace H : (if y326.length + l1_3.length < 17592186044416 then (if t323.length < 2932031007402 then ((some (t323 ++ [(⟨a1_1, (y326 ++ l1_3), a2⟩ : S60)] : List (S60))).bind fun y332 => ((spec_BindsValid.f kj3 y332).bind fun t335 => (if t335 = true then (some (y332, true)) else (some ((([] : List (S60))), false))))) else (none)) else (none)) = some (r1, r2) := by first | (rw [hy326]; with_reducible exact H) | (have H2_ := (Option.bind_some _ _).symm.trans H; rw [hy326]; with_reducible exact H2_) | (have H2_ := (Option.bind_some _ _).symm.trans H; with_reducible exact H2_) | with_reducible exact H | (rw [hy326]; exact H) | exact H
        have Ny326 := Aside0.mk hy326
        clear hy326
        by_cases c17 : y326.length + l1_3.length < 17592186044416
        · rw [if_pos c17] at H
          have LMc17 := Aside0.mk c17
          clear c17
          obtain ⟨y329, hy329⟩ : ∃ y_ : List Int, y_ = (y326 ++ l1_3) := ⟨_, rfl⟩
          replace H : (if t323.length < 2932031007402 then ((some (t323 ++ [(⟨a1_1, y329, a2⟩ : S60)] : List (S60))).bind fun y332 => ((spec_BindsValid.f kj3 y332).bind fun t335 => (if t335 = true then (some (y332, true)) else (some ((([] : List (S60))), false))))) else (none)) = some (r1, r2) := by first | (rw [hy329]; with_reducible exact H) | (have H2_ := (Option.bind_some _ _).symm.trans H; rw [hy329]; with_reducible exact H2_) | (have H2_ := (Option.bind_some _ _).symm.trans H; with_reducible exact H2_) | with_reducible exact H | (rw [hy329]; exact H) | exact H
          have Ny329 := Aside0.mk hy329
          clear hy329
          by_cases c18 : t323.length < 2932031007402
          · rw [if_pos c18] at H
            have LMc18 := Aside0.mk c18
            clear c18
            obtain ⟨y332, hy332⟩ : ∃ y_ : List (S60), y_ = (t323 ++ [(⟨a1_1, y329, a2⟩ : S60)]) := ⟨_, rfl⟩
            replace H : ((spec_BindsValid.f kj3 y332).bind fun t335 => (if t335 = true then (some (y332, true)) else (some ((([] : List (S60))), false)))) = some (r1, r2) := by first | (rw [hy332]; with_reducible exact H) | (have H2_ := (Option.bind_some _ _).symm.trans H; rw [hy332]; with_reducible exact H2_) | (have H2_ := (Option.bind_some _ _).symm.trans H; with_reducible exact H2_) | with_reducible exact H | (rw [hy332]; exact H) | exact H
            have Ny332 := Aside0.mk hy332
            clear hy332
            replace H := Option.bind_eq_some_iff.mp H
            obtain ⟨t335, A190, H⟩ := H
            replace H : (if t335 = true then (some (y332, true)) else (some ((([] : List (S60))), false))) = some (r1, r2) := H
            have A19 := Aside0.mk A190
            clear A190
            by_cases c20 : t335 = true
            · subst c20
              have H1 : (some (y332, true)) = some (r1, r2) := by rw [if_pos rfl] at H; exact H
              clear H
              have H := H1
              clear H1
              simp only [Option.some.injEq, Prod.mk.injEq] at H
              obtain ⟨rfl, rfl⟩ := H
              try go_wp2
              have n0_ := Aside0.mk (blk_drew BK317.out)
              have n1_ := Aside0.mk (below_drew1 HB.out)
              clear BK317
              clear HB
              have BK317 := n0_
              have HB := n1_
              clear n0_ n1_
              refine start_ (n := 13) (S := fun w' => w'.cell? ⟨gb317, 0, none⟩ = some (.int .i64 a1_0) ∧ w'.cell? ⟨gb317, 1, none⟩ = some (.string a1_1) ∧ w'.cell? ⟨gb317, 2, none⟩ = some (.int .i64 a1_2) ∧ w'.cell? ⟨gb317, 3, none⟩ = some (.slice A1_3 l1_3.length c1_3) ∧ w'.cell? ⟨gb317, 4, none⟩ = some (.slice A1_4 l1_4.length c1_4)) (ds := []) #[false, false, false, false, false, false, false, false, false, false, false, false, false] (by kernel_rfl) rfl rfl ⟨(blk_cell BK317.out 0).trans rfl, (blk_cell BK317.out 1).trans rfl, (blk_cell BK317.out 2).trans rfl, (blk_cell BK317.out 3).trans rfl, (blk_cell BK317.out 4).trans rfl⟩ (fun hHeld => ?_); refine with_tabW spec_AddBind.tab3 spec_AddBind.bits3 (fun HT_ HW_ => ?_)
              generalize wc.drew = w21 at BK317 HB hHeld ⊢
              refine pure_ (i := 0) (N := some 18) (v := ?_) (a' := ?_) #[true, false, false, false, false, false, false, false, false, false, false, false, false] rfl rfl (any_of HT_.out (by kernel_rfl)) (fun _ _ _ h => h) (Or.inl ⟨by rfl, ?_⟩) ?_ ?_
              rotate_left
              · intro w'
                go_simp
                with_reducible rfl
              rotate_left
              · simp only [Act.put, List.setIfInBounds_toArray, List.set_cons_zero, List.set_cons_succ, i64_w, i32_w]
                rfl
              refine pure_ (i := 2) (N := some 20) (v := ?_) (a' := ?_) #[true, false, true, false, false, false, false, false, false, false, false, false, false] rfl rfl (any_of HT_.out (by kernel_rfl)) (fun _ _ _ h => h) (Or.inl ⟨by rfl, ?_⟩) ?_ ?_
              rotate_left
              · intro w'
                go_simp
                with_reducible rfl
              rotate_left
              · simp only [Act.put, List.setIfInBounds_toArray, List.set_cons_zero, List.set_cons_succ, i64_w, i32_w]
                rfl
              refine pure_ (i := 5) (N := some 23) (v := ?_) (a' := ?_) #[true, false, true, false, false, true, false, false, false, false, false, false, false] rfl rfl (any_of HT_.out (by kernel_rfl)) (fun _ _ _ h => h) (Or.inl ⟨by rfl, ?_⟩) ?_ ?_
              rotate_left
              · intro w'
                go_simp
                with_reducible rfl
              rotate_left
              · simp only [Act.put, List.setIfInBounds_toArray, List.set_cons_zero, List.set_cons_succ, i64_w, i32_w]
                rfl
              refine pure_ (i := 8) (N := some 26) (v := ?_) (a' := ?_) #[true, false, true, false, false, true, false, false, true, false, false, false, false] rfl rfl (any_of HT_.out (by kernel_rfl)) (fun _ _ _ h => h) (Or.inl ⟨by rfl, ?_⟩) ?_ ?_
              rotate_left
              · intro w'
                go_simp
                with_reducible rfl
              rotate_left
              · simp only [Act.put, List.setIfInBounds_toArray, List.set_cons_zero, List.set_cons_succ, i64_w, i32_w]
                rfl
              refine take_ (i := 3) (N := some 21) (v := ?_) (a' := ?_) #[true, false, true, true, false, true, false, false, true, false, false, false, false] rfl rfl (take_ofW HT_.out HW_.out (by kernel_rfl)) (fun _ _ _ h => h) (Or.inl ⟨by rfl, ?_⟩) hHeld ?_ ?_
              rotate_left
              · rintro w' ⟨s0, s1, s2, s3, s4⟩
                go_simp
                with_reducible rfl
              rotate_left
              · simp only [Act.put, List.setIfInBounds_toArray, List.set_cons_zero, List.set_cons_succ, i64_w, i32_w]
                rfl
              refine take_ (i := 6) (N := some 24) (v := ?_) (a' := ?_) #[true, false, true, true, false, true, true, false, true, false, false, false, false] rfl rfl (take_ofW HT_.out HW_.out (by kernel_rfl)) (fun _ _ _ h => h) (Or.inl ⟨by rfl, ?_⟩) hHeld ?_ ?_
              rotate_left
              · rintro w' ⟨s0, s1, s2, s3, s4⟩
                go_simp
                with_reducible rfl
              rotate_left
              · simp only [Act.put, List.setIfInBounds_toArray, List.set_cons_zero, List.set_cons_succ, i64_w, i32_w]
                rfl
              refine join_ (σ := Value × Value) 5 #[true, true, true, true, true, true, true, false, true, false, false, false, false] (fun s_ => [(19, s_.1), (22, s_.2)]) (fun s_ w' => (w'.cell? ⟨gb317, 0, none⟩ = some (.int .i64 a1_0) ∧ w'.cell? ⟨gb317, 1, none⟩ = some (.string a1_1) ∧ w'.cell? ⟨gb317, 2, none⟩ = some (.int .i64 a1_2) ∧ w'.cell? ⟨gb317, 3, none⟩ = some (.slice A1_3 l1_3.length c1_3) ∧ w'.cell? ⟨gb317, 4, none⟩ = some (.slice A1_4 l1_4.length c1_4)) ∧ (Kd.S k60 60 w' w.heap.size (fun k_ => some k_ ≠ (s_.2 : Value).ownBlock) s_.1 t323) ∧ (Kd.R (Kd.int .i64) 3 w' w.heap.size (fun _ => True) s_.2 y326) ∧ (w'.heap[gb317]? = some (.cells #[.int .i64 a1_0, .string a1_1, .int .i64 a1_2, .slice A1_3 l1_3.length c1_3, .slice A1_4 l1_4.length c1_4] 26 (0, 0))) ∧ (Below w.heap.size w w')) ?_ ?_
              rotate_left
              · intro hCont
                refine two_ (i := 1) (j := 4) (Ni := some 19) (Nj := some 22) #[true, true, true, true, false, true, true, false, true, false, false, false, false] #[true, false, true, true, true, true, true, false, true, false, false, false, false] rfl rfl rfl rfl (two_of HT_.out (by kernel_rfl)) (by decide) (by decide) (fun K hK => ?_) (fun K hK => ?_)
                · skip
                  refine goes_ Tryd.func78 (by kernel_rfl) rfl #[.slice A0 l0.length c0] (by rfl) rfl rfl (by (try simp only [List.map_toArray, List.map_cons, List.map_nil]); first | done | rfl | (simp only [List.length_drop, List.length_take]; rfl)) ?_
                  with_reducible refine (spec_l3Copy.calls kj3 _ _ l0 t323 _ ?side1 ?side2 A16.out).mono ?_
                  (case side1 => repeat (first | exact (Kd.C_below HR0.out HB.out) | (with_reducible refine Kd.C_alloc ?_ _) | (with_reducible refine Kd.C_drewN ?_ _) | (with_reducible refine Kd.C_drew ?_)))
                  (case side2 => exact HC0.out)
                  rintro e w22 ⟨v324, rfl, ho0, hb⟩
                  refine ⟨_, rfl, ?_⟩
                  have n0_ := Aside0.mk (Kd.S_lower ho0 (below_size (by repeat (first | (with_reducible first | exact HB.out | apply below_alloc | apply pw_below_drewN | apply below_drew1 | refine below_set ?_ GE317.out) | exact HB.out))))
                  have n1_ := Aside0.mk (blk_below (g := gb317) (o := .cells #[.int .i64 a1_0, .string a1_1, .int .i64 a1_2, .slice A1_3 l1_3.length c1_3, .slice A1_4 l1_4.length c1_4] 26 (0, 0)) (by (with_reducible repeat (first | refine blk_drewN ?_ _ | refine blk_drew ?_ | refine blk_alloc ?_ _)); exact BK317.out) hb)
                  have n2_ := Aside0.mk (below_step (by repeat (first | (with_reducible first | exact HB.out | apply below_alloc | apply pw_below_drewN | apply below_drew1 | refine below_set ?_ GE317.out) | exact HB.out)) hb)
                  clear BK317
                  clear HB
                  have HO325 := n0_
                  have BK317 := n1_
                  have HB := n2_
                  clear n0_ n1_ n2_
                  (try clear hb)
                  (try clear hb2)
                  (try clear hk)
                  (try clear hi)
                  (try clear ho0)
                  refine hK.out _ _ ⟨(blk_cell BK317.out 0).trans rfl, (blk_cell BK317.out 1).trans rfl, (blk_cell BK317.out 2).trans rfl, (blk_cell BK317.out 3).trans rfl, (blk_cell BK317.out 4).trans rfl⟩ (fun hHeld => ?_)
                  clear hK K
                  refine norm_ (a' := ?_) ?_ ?_
                  rotate_left
                  · show Act.put _ (some 19) _ = _
                    simp only [Act.put, List.setIfInBounds_toArray, List.set_cons_zero, List.set_cons_succ, i64_w, i32_w]
                    rfl
                  refine one_ (i := 4) (N := some 22) #[true, true, true, true, true, true, true, false, true, false, false, false, false] rfl rfl (one_of HT_.out (by kernel_rfl)) (by decide) (fun K hK => ?_)
                  refine Kd.R_lit_step (Kd.int .i64) _ 3 ?hg (N := 22) ?hd (xs := ([] : List Int)) (inner := []) (ok := fun _ => True) (okp := fun _ => True) ?hr ?hp (fun _ hk => hk) trivial (Below.refl _ _) (Nat.le_refl _) (by simp) ?_; (case hd => rfl); (case hg => rfl); (case hr => first | (go_simp; done) | (go_simp; rfl)); (case hp => exact (Reps.none _ _))
                  intro v327 w23 ho24 hb hg_ hnew_
                  clear hg_ hnew_
                  (first | rw [← Ny326.out] at ho24 | (simp only [Int.reduceToNat] at ho24; rw [← Ny326.out] at ho24))
                  have n0_ := Aside0.mk (Kd.S_elder' (by (with_reducible repeat (first | apply Kd.S_alloc | apply Kd.S_drewN | apply Kd.S_drew)); exact HO325.out) (Kd.R_base ho24) hb)
                  have n1_ := Aside0.mk (Kd.R_lower ho24 (below_size (by repeat (first | (with_reducible first | exact HB.out | apply below_alloc | apply pw_below_drewN | apply below_drew1 | refine below_set ?_ GE317.out) | exact HB.out))))
                  have n2_ := Aside0.mk (blk_below (g := gb317) (o := .cells #[.int .i64 a1_0, .string a1_1, .int .i64 a1_2, .slice A1_3 l1_3.length c1_3, .slice A1_4 l1_4.length c1_4] 26 (0, 0)) (by (with_reducible repeat (first | refine blk_drewN ?_ _ | refine blk_drew ?_ | refine blk_alloc ?_ _)); exact BK317.out) hb)
                  have n3_ := Aside0.mk (below_step (by repeat (first | (with_reducible first | exact HB.out | apply below_alloc | apply pw_below_drewN | apply below_drew1 | refine below_set ?_ GE317.out) | exact HB.out)) hb)
                  clear HO325
                  clear BK317
                  clear HB
                  have HO325 := n0_
                  have HO328 := n1_
                  have BK317 := n2_
                  have HB := n3_
                  clear n0_ n1_ n2_ n3_
                  clear hb ho24
                  refine hK.out _ _ ⟨(blk_cell BK317.out 0).trans rfl, (blk_cell BK317.out 1).trans rfl, (blk_cell BK317.out 2).trans rfl, (blk_cell BK317.out 3).trans rfl, (blk_cell BK317.out 4).trans rfl⟩ (fun hHeld => ?_)
                  clear hK K
                  refine norm_ (a' := ?_) ?_ ?_
                  rotate_left
                  · show Act.put _ (some 22) _ = _
                    simp only [Act.put, List.setIfInBounds_toArray, List.set_cons_zero, List.set_cons_succ, i64_w, i32_w]
                    rfl
                  exact norm_ (by simp only [putAll, Act.put, List.setIfInBounds_toArray, List.set_cons_zero, List.set_cons_succ]) (hCont (v324, v327) _ ⟨hHeld, (by (with_reducible repeat (first | apply Kd.S_alloc | apply Kd.S_drewN | apply Kd.S_drew)); exact Kd.S_mono HO325.out (fun _ hk => hk.2)), (by (with_reducible repeat (first | apply Kd.R_alloc | apply Kd.R_drewN | apply Kd.R_drew)); exact HO328.out), (by (with_reducible repeat (first | refine blk_drewN ?_ _ | refine blk_drew ?_ | refine blk_alloc ?_ _)); exact BK317.out), (by repeat (first | (with_reducible first | exact HB.out | apply below_alloc | apply pw_below_drewN | apply below_drew1 | refine below_set ?_ GE317.out) | exact HB.out))⟩)
                · skip
                  refine Kd.R_lit_step (Kd.int .i64) _ 3 ?hg (N := 22) ?hd (xs := ([] : List Int)) (inner := []) (ok := fun _ => True) (okp := fun _ => True) ?hr ?hp (fun _ hk => hk) trivial (Below.refl _ _) (Nat.le_refl _) (by simp) ?_; (case hd => rfl); (case hg => rfl); (case hr => first | (go_simp; done) | (go_simp; rfl)); (case hp => exact (Reps.none _ _))
                  intro v327 w22 ho23 hb hg_ hnew_
                  clear hg_ hnew_
                  (first | rw [← Ny326.out] at ho23 | (simp only [Int.reduceToNat] at ho23; rw [← Ny326.out] at ho23))
                  have n0_ := Aside0.mk (Kd.R_lower ho23 (below_size (by repeat (first | (with_reducible first | exact HB.out | apply below_alloc | apply pw_below_drewN | apply below_drew1 | refine below_set ?_ GE317.out) | exact HB.out))))
                  have n1_ := Aside0.mk (blk_below (g := gb317) (o := .cells #[.int .i64 a1_0, .string a1_1, .int .i64 a1_2, .slice A1_3 l1_3.length c1_3, .slice A1_4 l1_4.length c1_4] 26 (0, 0)) (by (with_reducible repeat (first | refine blk_drewN ?_ _ | refine blk_drew ?_ | refine blk_alloc ?_ _)); exact BK317.out) hb)
                  have n2_ := Aside0.mk (below_step (by repeat (first | (with_reducible first | exact HB.out | apply below_alloc | apply pw_below_drewN | apply below_drew1 | refine below_set ?_ GE317.out) | exact HB.out)) hb)
                  clear BK317
                  clear HB
                  have HO328 := n0_
                  have BK317 := n1_
                  have HB := n2_
                  clear n0_ n1_ n2_
                  clear hb ho23
                  refine hK.out _ _ ⟨(blk_cell BK317.out 0).trans rfl, (blk_cell BK317.out 1).trans rfl, (blk_cell BK317.out 2).trans rfl, (blk_cell BK317.out 3).trans rfl, (blk_cell BK317.out 4).trans rfl⟩ (fun hHeld => ?_)
                  clear hK K
                  refine norm_ (a' := ?_) ?_ ?_
                  rotate_left
                  · show Act.put _ (some 22) _ = _
                    simp only [Act.put, List.setIfInBounds_toArray, List.set_cons_zero, List.set_cons_succ, i64_w, i32_w]
                    rfl
                  refine one_ (i := 1) (N := some 19) #[true, true, true, true, true, true, true, false, true, false, false, false, false] rfl rfl (one_of HT_.out (by kernel_rfl)) (by decide) (fun K hK => ?_)
                  refine goes_ Tryd.func78 (by kernel_rfl) rfl #[.slice A0 l0.length c0] (by rfl) rfl rfl (by (try simp only [List.map_toArray, List.map_cons, List.map_nil]); first | done | rfl | (simp only [List.length_drop, List.length_take]; rfl)) ?_
                  with_reducible refine (spec_l3Copy.calls kj3 _ _ l0 t323 _ ?side1 ?side2 A16.out).mono ?_
                  (case side1 => repeat (first | exact (Kd.C_below HR0.out HB.out) | (with_reducible refine Kd.C_alloc ?_ _) | (with_reducible refine Kd.C_drewN ?_ _) | (with_reducible refine Kd.C_drew ?_)))
                  (case side2 => exact HC0.out)
                  rintro e w24 ⟨v324, rfl, ho0, hb⟩
                  refine ⟨_, rfl, ?_⟩
                  have n0_ := Aside0.mk (Kd.R_below (by (with_reducible repeat (first | apply Kd.R_alloc | apply Kd.R_drewN | apply Kd.R_drew)); exact HO328.out) hb)
                  have n1_ := Aside0.mk (Kd.S_lower (Kd.S_new' ho0 (Kd.R_lt (by (with_reducible repeat (first | apply Kd.R_alloc | apply Kd.R_drewN | apply Kd.R_drew)); exact HO328.out))) (below_size (by repeat (first | (with_reducible first | exact HB.out | apply below_alloc | apply pw_below_drewN | apply below_drew1 | refine below_set ?_ GE317.out) | exact HB.out))))
                  have n2_ := Aside0.mk (blk_below (g := gb317) (o := .cells #[.int .i64 a1_0, .string a1_1, .int .i64 a1_2, .slice A1_3 l1_3.length c1_3, .slice A1_4 l1_4.length c1_4] 26 (0, 0)) (by (with_reducible repeat (first | refine blk_drewN ?_ _ | refine blk_drew ?_ | refine blk_alloc ?_ _)); exact BK317.out) hb)
                  have n3_ := Aside0.mk (below_step (by repeat (first | (with_reducible first | exact HB.out | apply below_alloc | apply pw_below_drewN | apply below_drew1 | refine below_set ?_ GE317.out) | exact HB.out)) hb)
                  clear HO328
                  clear BK317
                  clear HB
                  have HO328 := n0_
                  have HO325 := n1_
                  have BK317 := n2_
                  have HB := n3_
                  clear n0_ n1_ n2_ n3_
                  (try clear hb)
                  (try clear hb2)
                  (try clear hk)
                  (try clear hi)
                  (try clear ho0)
                  refine hK.out _ _ ⟨(blk_cell BK317.out 0).trans rfl, (blk_cell BK317.out 1).trans rfl, (blk_cell BK317.out 2).trans rfl, (blk_cell BK317.out 3).trans rfl, (blk_cell BK317.out 4).trans rfl⟩ (fun hHeld => ?_)
                  clear hK K
                  refine norm_ (a' := ?_) ?_ ?_
                  rotate_left
                  · show Act.put _ (some 19) _ = _
                    simp only [Act.put, List.setIfInBounds_toArray, List.set_cons_zero, List.set_cons_succ, i64_w, i32_w]
                    rfl
                  exact norm_ (by simp only [putAll, Act.put, List.setIfInBounds_toArray, List.set_cons_zero, List.set_cons_succ]) (hCont (v324, v327) _ ⟨hHeld, (by (with_reducible repeat (first | apply Kd.S_alloc | apply Kd.S_drewN | apply Kd.S_drew)); exact Kd.S_mono HO325.out (fun _ hk => hk.2)), (by (with_reducible repeat (first | apply Kd.R_alloc | apply Kd.R_drewN | apply Kd.R_drew)); exact HO328.out), (by (with_reducible repeat (first | refine blk_drewN ?_ _ | refine blk_drew ?_ | refine blk_alloc ?_ _)); exact BK317.out), (by repeat (first | (with_reducible first | exact HB.out | apply below_alloc | apply pw_below_drewN | apply below_drew1 | refine below_set ?_ GE317.out) | exact HB.out))⟩)
              rintro ⟨v324, v327⟩ w25 ⟨hS_, h0_, h1_, h2_, h3_⟩
              have n0_ : Aside0 (Kd.S k60 60 w25 w.heap.size (fun k_ => some k_ ≠ (v327 : Value).ownBlock) v324 t323) := ⟨h0_⟩
              have n1_ : Aside0 (Kd.R (Kd.int .i64) 3 w25 w.heap.size (fun _ => True) v327 y326) := ⟨h1_⟩
              have n2_ : Aside0 (w25.heap[gb317]? = some (.cells #[.int .i64 a1_0, .string a1_1, .int .i64 a1_2, .slice A1_3 l1_3.length c1_3, .slice A1_4 l1_4.length c1_4] 26 (0, 0))) := ⟨h2_⟩
              have n3_ : Aside0 (Below w.heap.size w w25) := ⟨h3_⟩
              clear BK317
              clear HB
              clear h0_ h1_ h2_ h3_
              have HO325 := n0_
              have HO328 := n1_
              have BK317 := n2_
              have HB := n3_
              clear n0_ n1_ n2_ n3_
              have hHeld : w25.cell? ⟨gb317, 0, none⟩ = some (.int .i64 a1_0) ∧ w25.cell? ⟨gb317, 1, none⟩ = some (.string a1_1) ∧ w25.cell? ⟨gb317, 2, none⟩ = some (.int .i64 a1_2) ∧ w25.cell? ⟨gb317, 3, none⟩ = some (.slice A1_3 l1_3.length c1_3) ∧ w25.cell? ⟨gb317, 4, none⟩ = some (.slice A1_4 l1_4.length c1_4) := hS_
              refine norm_ (a' := ?_) ?_ ?_
              rotate_left
              · simp only [putAll, Act.put, List.setIfInBounds_toArray, List.set_cons_zero, List.set_cons_succ]
                rfl
              refine one_ (i := 7) (N := some 25) #[true, true, true, true, true, true, true, true, true, false, false, false, false] rfl rfl (one_of HT_.out (by kernel_rfl)) (by decide) (fun K hK => ?_)
              refine Kd.R_append_rows_step (Kd.int .i64) (w0 := w) w.heap.size (by rfl) (.tmp 22) (.tmp 24) 23 3 (.int .i64 0) 8 rfl Tryd.underlying23 info3 rfl (by decide) (by omega) v327 y326 l1_3 _ _ _ (fun _ => True) (fun _ => False) rfl rfl ?aO ?aR (fun _ _ h => h) (fun _ h => h.elim) ?aF ?aB ?aS ?aL ?_
              (case aR => repeat (first | exact (Kd.C_below HR1_3.out HB.out) | (with_reducible refine Kd.C_alloc ?_ _) | (with_reducible refine Kd.C_drewN ?_ _) | (with_reducible refine Kd.C_drew ?_)))
              (case aB => exact (by repeat (first | (with_reducible first | exact HB.out | apply below_alloc | apply pw_below_drewN | apply below_drew1 | refine below_set ?_ GE317.out) | exact HB.out)))
              (case aF => exact (fun _ _ => trivial))
              (case aO => exact (by (with_reducible repeat (first | apply Kd.R_alloc | apply Kd.R_drewN | apply Kd.R_drew)); exact HO328.out))
              (case aS => exact (below_size (by repeat (first | (with_reducible first | exact HB.out | apply below_alloc | apply pw_below_drewN | apply below_drew1 | refine below_set ?_ GE317.out) | exact HB.out))))
              (case aL => have := LMc17.out; omega)
              intro v330 w26 ho hb hg hat
              rw [← Ny329.out] at ho
              have n0_ := Aside0.mk (blk_grown (g := gb317) (o := .cells #[.int .i64 a1_0, .string a1_1, .int .i64 a1_2, .slice A1_3 l1_3.length c1_3, .slice A1_4 l1_4.length c1_4] 26 (0, 0)) (by (with_reducible repeat (first | refine blk_drewN ?_ _ | refine blk_drew ?_ | refine blk_alloc ?_ _)); exact BK317.out) hg (Kd.R_ne HO328.out BK317.out (by decide)))
              have n1_ := Aside0.mk (Kd.S_after (ok := (fun _ => True)) (by (with_reducible repeat (first | apply Kd.S_alloc | apply Kd.S_drewN | apply Kd.S_drew)); exact Kd.S_mono HO325.out (fun _ hk => ⟨trivial, hk⟩)) hg hat)
              have n2_ := Aside0.mk (hb)
              have n3_ := Aside0.mk (ho)
              clear BK317
              clear HO325
              clear HB
              clear HO328
              have BK317 := n0_
              have HO325 := n1_
              have HB := n2_
              have HO331 := n3_
              clear n0_ n1_ n2_ n3_
              clear ho hb hg hat
              obtain ⟨Ao27, co27, eo27⟩ := Kd.R_slice HO331.out
              (first | subst eo27 | (injection eo27 with f1_ f2_ f3_; have f4_ := f1_.symm; have f5_ := f3_.symm; clear f1_ f2_ f3_; subst f4_; subst f5_))
              refine hK.out _ _ ⟨(blk_cell BK317.out 0).trans rfl, (blk_cell BK317.out 1).trans rfl, (blk_cell BK317.out 2).trans rfl, (blk_cell BK317.out 3).trans rfl, (blk_cell BK317.out 4).trans rfl⟩ (fun hHeld => ?_)
              clear hK K
              refine norm_ (a' := ?_) ?_ ?_
              rotate_left
              · show Act.put _ (some 25) _ = _
                simp only [Act.put, List.setIfInBounds_toArray, List.set_cons_zero, List.set_cons_succ, i64_w, i32_w]
                rfl
              refine pure_ (i := 9) (N := some 27) (v := ?_) (a' := ?_) #[true, true, true, true, true, true, true, true, true, true, false, false, false] rfl rfl (any_of HT_.out (by kernel_rfl)) (fun _ _ _ h => h) (Or.inl ⟨by rfl, ?_⟩) ?_ ?_
              rotate_left
              · intro w'
                go_simp
                with_reducible rfl
              rotate_left
              · simp only [Act.put, List.setIfInBounds_toArray, List.set_cons_zero, List.set_cons_succ, i64_w, i32_w]
                rfl
              refine one_ (i := 10) (N := some 28) #[true, true, true, true, true, true, true, true, true, true, true, false, false] rfl rfl (one_of HT_.out (by kernel_rfl)) (by decide) (fun K hK => ?_)
              refine value_ (w1 := ?_) (v := ?_) (by rfl) rfl ?_ ?_
              rotate_left 2
              · go_simp
                constructor
                · rfl
                · rfl
              refine hK.out _ _ ⟨(blk_cell (blk_alloc BK317.out _) 0).trans rfl, (blk_cell (blk_alloc BK317.out _) 1).trans rfl, (blk_cell (blk_alloc BK317.out _) 2).trans rfl, (blk_cell (blk_alloc BK317.out _) 3).trans rfl, (blk_cell (blk_alloc BK317.out _) 4).trans rfl⟩ (fun hHeld => ?_)
              clear hK K
              refine norm_ (a' := ?_) ?_ ?_
              rotate_left
              · show Act.put _ (some 28) _ = _
                simp only [Act.put, List.setIfInBounds_toArray, List.set_cons_zero, List.set_cons_succ, i64_w, i32_w]
                rfl
              refine one_ (i := 11) (N := some 29) #[true, true, true, true, true, true, true, true, true, true, true, true, false] rfl rfl (one_of HT_.out (by kernel_rfl)) (by decide) (fun K hK => ?_)
              refine Kd.S_append_step k60 (w0 := w) w.heap.size (by rfl) (.tmp 19) (.tmp 28) 35 60 (.agg #[(.string ⟨#[]⟩), (.slice none 0 0), (.int .i64 0)]) 48 rfl Tryd.underlying35 info60 rfl (by decide) (by omega) v324 t323 (⟨a1_1, y329, a2⟩ : S60) [.string a1_1, .slice Ao27 y329.length co27, .int .i64 a2] (fun _ => True) (fun k_ => some k_ = (.slice Ao27 y329.length co27 : Value).ownBlock) rfl rfl ?aP (fun k_ hk_ => ((Kd.R_mono (ok' := fun k_ => ((fun _ => True)) k_ ∧ some k_ ≠ (v324 : Value).ownBlock) (Kd.R_apart' (HO331.out) (Kd.S_typed HO325.out) (by decide)) (fun k_ hk => ⟨trivial, hk.2⟩))).1 k_ hk_.symm) ?aF ?aO ?aB ?aS ?aL ?_
              (case aP => exact k60_mkM _ _ _ (⟨a1_1, y329, a2⟩ : S60) (Kd.R_mono (Kd.R_tight rfl (Kd.R_mono (ok' := fun k_ => ((fun _ => True)) k_ ∧ some k_ ≠ (v324 : Value).ownBlock) (Kd.R_apart' (HO331.out) (Kd.S_typed HO325.out) (by decide)) (fun k_ hk => ⟨trivial, hk.2⟩))) (fun _ h_ => h_)))
              (case aB => exact (by repeat (first | (with_reducible first | exact HB.out | apply below_alloc | apply pw_below_drewN | apply below_drew1 | refine below_set ?_ GE317.out) | exact HB.out)))
              (case aF => exact (fun _ _ => trivial))
              (case aO => exact (by (with_reducible repeat (first | apply Kd.S_alloc | apply Kd.S_drewN | apply Kd.S_drew)); exact Kd.S_mono HO325.out (fun k_ hk => ⟨trivial, fun e_ => hk.2 e_⟩)))
              (case aS => exact (below_size (by repeat (first | (with_reducible first | exact HB.out | apply below_alloc | apply pw_below_drewN | apply below_drew1 | refine below_set ?_ GE317.out) | exact HB.out))))
              (case aL => have := LMc18.out; omega)
              intro v333 w28 ho hb hg hat
              rw [← Ny332.out] at ho
              have n0_ := Aside0.mk (blk_grown (g := gb317) (o := .cells #[.int .i64 a1_0, .string a1_1, .int .i64 a1_2, .slice A1_3 l1_3.length c1_3, .slice A1_4 l1_4.length c1_4] 26 (0, 0)) (by (with_reducible repeat (first | refine blk_drewN ?_ _ | refine blk_drew ?_ | refine blk_alloc ?_ _)); exact BK317.out) hg (Kd.S_ne HO325.out BK317.out (by decide)))
              have n1_ := Aside0.mk (hb)
              have n2_ := Aside0.mk (ho)
              clear BK317
              clear HB
              clear HO325
              clear HO331
              have BK317 := n0_
              have HB := n1_
              have HO334 := n2_
              clear n0_ n1_ n2_
              clear ho hb hg hat
              refine hK.out _ _ ⟨(blk_cell BK317.out 0).trans rfl, (blk_cell BK317.out 1).trans rfl, (blk_cell BK317.out 2).trans rfl, (blk_cell BK317.out 3).trans rfl, (blk_cell BK317.out 4).trans rfl⟩ (fun hHeld => ?_)
              clear hK K
              refine norm_ (a' := ?_) ?_ ?_
              rotate_left
              · show Act.put _ (some 29) _ = _
                simp only [Act.put, List.setIfInBounds_toArray, List.set_cons_zero, List.set_cons_succ, i64_w, i32_w]
                rfl
              refine pure_ (i := 12) (N := some 8) (v := ?_) (a' := ?_) #[true, true, true, true, true, true, true, true, true, true, true, true, true] rfl rfl (any_of HT_.out (by kernel_rfl)) (fun _ _ _ h => h) (Or.inl ⟨by rfl, ?_⟩) ?_ ?_
              rotate_left
              · intro w'
                go_simp
                with_reducible rfl
              rotate_left
              · simp only [Act.put, List.setIfInBounds_toArray, List.set_cons_zero, List.set_cons_succ, i64_w, i32_w]
                rfl
              refine done_ (done_of HT_.out (by kernel_rfl)) ?_
              obtain ⟨Ao29, co29, eo29⟩ := Kd.S_slice HO334.out
              subst eo29
              try go_wp2_with (first | ((with_reducible refine gate_callee (f := 21) rfl ?_); refine goesL_ (some 31) rfl rfl Tryd.func21 (by kernel_rfl) rfl #[.slice Ao29 y332.length co29] rfl (by (try simp only [List.map_toArray, List.map_cons, List.map_nil]); first | done | rfl | (simp only [List.length_drop, List.length_take]; rfl)) ?_; (with_reducible refine (spec_BindsValid.calls kj3 _ _ y332 true _ ?side1 ?side2 A19.out).mono ?_); (case side1 => repeat (first | exact (Kd.S_reads' HO334.out).2.2 | (with_reducible refine Kd.C_alloc ?_ _) | (with_reducible refine Kd.C_drewN ?_ _) | (with_reducible refine Kd.C_drew ?_))); (case side2 => exact (Kd.S_reads' HO334.out).2.1); rintro e w30 ⟨rfl, hb⟩; refine ⟨_, rfl, ?_⟩; have n0_ := Aside0.mk (Kd.S_below (by (with_reducible repeat (first | apply Kd.S_alloc | apply Kd.S_drewN | apply Kd.S_drew)); exact HO334.out) hb); have n1_ := Aside0.mk (blk_below (g := gb317) (o := .cells #[.int .i64 a1_0, .string a1_1, .int .i64 a1_2, .slice A1_3 l1_3.length c1_3, .slice A1_4 l1_4.length c1_4] 26 (0, 0)) (by (with_reducible repeat (first | refine blk_drewN ?_ _ | refine blk_drew ?_ | refine blk_alloc ?_ _)); exact BK317.out) hb); have n2_ := Aside0.mk (below_step (by repeat (first | (with_reducible first | exact HB.out | apply below_alloc | apply pw_below_drewN | apply below_drew1 | refine below_set ?_ GE317.out) | exact HB.out)) hb); clear HO334; clear BK317; clear HB; have HO334 := n0_; have BK317 := n1_; have HB := n2_; clear n0_ n1_ n2_; (try clear hb); (try clear hb2); (try clear hk); (try clear hi)))
              go_ret2
              exact ⟨_, by first | rfl | (simp [errW_none, errW_some] <;> rfl) | (simp [*, errW_none, errW_some] <;> rfl), by (with_reducible repeat (first | apply Kd.S_alloc | apply Kd.S_drewN | apply Kd.S_drew)); exact HO334.out, by repeat (first | (with_reducible first | exact HB.out | apply below_alloc | apply pw_below_drewN | apply below_drew1 | refine below_set ?_ GE317.out) | exact HB.out)⟩
            · replace c20 := Bool.eq_false_iff.mpr c20
              subst c20
              have H1 : (some ((([] : List (S60))), false)) = some (r1, r2) := by rw [if_neg (show ¬ (false = true) by decide)] at H; exact H
              clear H
              have H := H1
              clear H1
              obtain ⟨y336, hy336⟩ : ∃ y_ : List (S60), y_ = (([] : List (S60))) := ⟨_, rfl⟩
              replace H : (some (y336, false)) = some (r1, r2) := by first | (rw [hy336]; with_reducible exact H) | (have H2_ := (Option.bind_some _ _).symm.trans H; rw [hy336]; with_reducible exact H2_) | (have H2_ := (Option.bind_some _ _).symm.trans H; with_reducible exact H2_) | with_reducible exact H | (rw [hy336]; exact H) | exact H
              have Ny336 := Aside0.mk hy336
              clear hy336
              simp only [Option.some.injEq, Prod.mk.injEq] at H
              obtain ⟨rfl, rfl⟩ := H
              try go_wp2
              have n0_ := Aside0.mk (blk_drew BK317.out)
              have n1_ := Aside0.mk (below_drew1 HB.out)
              clear BK317
              clear HB
              have BK317 := n0_
              have HB := n1_
              clear n0_ n1_
              refine start_ (n := 13) (S := fun w' => w'.cell? ⟨gb317, 0, none⟩ = some (.int .i64 a1_0) ∧ w'.cell? ⟨gb317, 1, none⟩ = some (.string a1_1) ∧ w'.cell? ⟨gb317, 2, none⟩ = some (.int .i64 a1_2) ∧ w'.cell? ⟨gb317, 3, none⟩ = some (.slice A1_3 l1_3.length c1_3) ∧ w'.cell? ⟨gb317, 4, none⟩ = some (.slice A1_4 l1_4.length c1_4)) (ds := []) #[false, false, false, false, false, false, false, false, false, false, false, false, false] (by kernel_rfl) rfl rfl ⟨(blk_cell BK317.out 0).trans rfl, (blk_cell BK317.out 1).trans rfl, (blk_cell BK317.out 2).trans rfl, (blk_cell BK317.out 3).trans rfl, (blk_cell BK317.out 4).trans rfl⟩ (fun hHeld => ?_); refine with_tabW spec_AddBind.tab3 spec_AddBind.bits3 (fun HT_ HW_ => ?_)
              generalize wc.drew = w31 at BK317 HB hHeld ⊢
              refine pure_ (i := 0) (N := some 18) (v := ?_) (a' := ?_) #[true, false, false, false, false, false, false, false, false, false, false, false, false] rfl rfl (any_of HT_.out (by kernel_rfl)) (fun _ _ _ h => h) (Or.inl ⟨by rfl, ?_⟩) ?_ ?_
              rotate_left
              · intro w'
                go_simp
                with_reducible rfl
              rotate_left
              · simp only [Act.put, List.setIfInBounds_toArray, List.set_cons_zero, List.set_cons_succ, i64_w, i32_w]
                rfl
              refine pure_ (i := 2) (N := some 20) (v := ?_) (a' := ?_) #[true, false, true, false, false, false, false, false, false, false, false, false, false] rfl rfl (any_of HT_.out (by kernel_rfl)) (fun _ _ _ h => h) (Or.inl ⟨by rfl, ?_⟩) ?_ ?_
              rotate_left
              · intro w'
                go_simp
                with_reducible rfl
              rotate_left
              · simp only [Act.put, List.setIfInBounds_toArray, List.set_cons_zero, List.set_cons_succ, i64_w, i32_w]
                rfl
              refine pure_ (i := 5) (N := some 23) (v := ?_) (a' := ?_) #[true, false, true, false, false, true, false, false, false, false, false, false, false] rfl rfl (any_of HT_.out (by kernel_rfl)) (fun _ _ _ h => h) (Or.inl ⟨by rfl, ?_⟩) ?_ ?_
              rotate_left
              · intro w'
                go_simp
                with_reducible rfl
              rotate_left
              · simp only [Act.put, List.setIfInBounds_toArray, List.set_cons_zero, List.set_cons_succ, i64_w, i32_w]
                rfl
              refine pure_ (i := 8) (N := some 26) (v := ?_) (a' := ?_) #[true, false, true, false, false, true, false, false, true, false, false, false, false] rfl rfl (any_of HT_.out (by kernel_rfl)) (fun _ _ _ h => h) (Or.inl ⟨by rfl, ?_⟩) ?_ ?_
              rotate_left
              · intro w'
                go_simp
                with_reducible rfl
              rotate_left
              · simp only [Act.put, List.setIfInBounds_toArray, List.set_cons_zero, List.set_cons_succ, i64_w, i32_w]
                rfl
              refine take_ (i := 3) (N := some 21) (v := ?_) (a' := ?_) #[true, false, true, true, false, true, false, false, true, false, false, false, false] rfl rfl (take_ofW HT_.out HW_.out (by kernel_rfl)) (fun _ _ _ h => h) (Or.inl ⟨by rfl, ?_⟩) hHeld ?_ ?_
              rotate_left
              · rintro w' ⟨s0, s1, s2, s3, s4⟩
                go_simp
                with_reducible rfl
              rotate_left
              · simp only [Act.put, List.setIfInBounds_toArray, List.set_cons_zero, List.set_cons_succ, i64_w, i32_w]
                rfl
              refine take_ (i := 6) (N := some 24) (v := ?_) (a' := ?_) #[true, false, true, true, false, true, true, false, true, false, false, false, false] rfl rfl (take_ofW HT_.out HW_.out (by kernel_rfl)) (fun _ _ _ h => h) (Or.inl ⟨by rfl, ?_⟩) hHeld ?_ ?_
              rotate_left
              · rintro w' ⟨s0, s1, s2, s3, s4⟩
                go_simp
                with_reducible rfl
              rotate_left
              · simp only [Act.put, List.setIfInBounds_toArray, List.set_cons_zero, List.set_cons_succ, i64_w, i32_w]
                rfl
              refine join_ (σ := Value × Value) 5 #[true, true, true, true, true, true, true, false, true, false, false, false, false] (fun s_ => [(19, s_.1), (22, s_.2)]) (fun s_ w' => (w'.cell? ⟨gb317, 0, none⟩ = some (.int .i64 a1_0) ∧ w'.cell? ⟨gb317, 1, none⟩ = some (.string a1_1) ∧ w'.cell? ⟨gb317, 2, none⟩ = some (.int .i64 a1_2) ∧ w'.cell? ⟨gb317, 3, none⟩ = some (.slice A1_3 l1_3.length c1_3) ∧ w'.cell? ⟨gb317, 4, none⟩ = some (.slice A1_4 l1_4.length c1_4)) ∧ (Kd.S k60 60 w' w.heap.size (fun k_ => some k_ ≠ (s_.2 : Value).ownBlock) s_.1 t323) ∧ (Kd.R (Kd.int .i64) 3 w' w.heap.size (fun _ => True) s_.2 y326) ∧ (w'.heap[gb317]? = some (.cells #[.int .i64 a1_0, .string a1_1, .int .i64 a1_2, .slice A1_3 l1_3.length c1_3, .slice A1_4 l1_4.length c1_4] 26 (0, 0))) ∧ (Below w.heap.size w w')) ?_ ?_
              rotate_left
              · intro hCont
                refine two_ (i := 1) (j := 4) (Ni := some 19) (Nj := some 22) #[true, true, true, true, false, true, true, false, true, false, false, false, false] #[true, false, true, true, true, true, true, false, true, false, false, false, false] rfl rfl rfl rfl (two_of HT_.out (by kernel_rfl)) (by decide) (by decide) (fun K hK => ?_) (fun K hK => ?_)
                · skip
                  refine goes_ Tryd.func78 (by kernel_rfl) rfl #[.slice A0 l0.length c0] (by rfl) rfl rfl (by (try simp only [List.map_toArray, List.map_cons, List.map_nil]); first | done | rfl | (simp only [List.length_drop, List.length_take]; rfl)) ?_
                  with_reducible refine (spec_l3Copy.calls kj3 _ _ l0 t323 _ ?side1 ?side2 A16.out).mono ?_
                  (case side1 => repeat (first | exact (Kd.C_below HR0.out HB.out) | (with_reducible refine Kd.C_alloc ?_ _) | (with_reducible refine Kd.C_drewN ?_ _) | (with_reducible refine Kd.C_drew ?_)))
                  (case side2 => exact HC0.out)
                  rintro e w32 ⟨v324, rfl, ho0, hb⟩
                  refine ⟨_, rfl, ?_⟩
                  have n0_ := Aside0.mk (Kd.S_lower ho0 (below_size (by repeat (first | (with_reducible first | exact HB.out | apply below_alloc | apply pw_below_drewN | apply below_drew1 | refine below_set ?_ GE317.out) | exact HB.out))))
                  have n1_ := Aside0.mk (blk_below (g := gb317) (o := .cells #[.int .i64 a1_0, .string a1_1, .int .i64 a1_2, .slice A1_3 l1_3.length c1_3, .slice A1_4 l1_4.length c1_4] 26 (0, 0)) (by (with_reducible repeat (first | refine blk_drewN ?_ _ | refine blk_drew ?_ | refine blk_alloc ?_ _)); exact BK317.out) hb)
                  have n2_ := Aside0.mk (below_step (by repeat (first | (with_reducible first | exact HB.out | apply below_alloc | apply pw_below_drewN | apply below_drew1 | refine below_set ?_ GE317.out) | exact HB.out)) hb)
                  clear BK317
                  clear HB
                  have HO325 := n0_
                  have BK317 := n1_
                  have HB := n2_
                  clear n0_ n1_ n2_
                  (try clear hb)
                  (try clear hb2)
                  (try clear hk)
                  (try clear hi)
                  (try clear ho0)
                  refine hK.out _ _ ⟨(blk_cell BK317.out 0).trans rfl, (blk_cell BK317.out 1).trans rfl, (blk_cell BK317.out 2).trans rfl, (blk_cell BK317.out 3).trans rfl, (blk_cell BK317.out 4).trans rfl⟩ (fun hHeld => ?_)
                  clear hK K
                  refine norm_ (a' := ?_) ?_ ?_
                  rotate_left
                  · show Act.put _ (some 19) _ = _
                    simp only [Act.put, List.setIfInBounds_toArray, List.set_cons_zero, List.set_cons_succ, i64_w, i32_w]
                    rfl
                  refine one_ (i := 4) (N := some 22) #[true, true, true, true, true, true, true, false, true, false, false, false, false] rfl rfl (one_of HT_.out (by kernel_rfl)) (by decide) (fun K hK => ?_)
                  refine Kd.R_lit_step (Kd.int .i64) _ 3 ?hg (N := 22) ?hd (xs := ([] : List Int)) (inner := []) (ok := fun _ => True) (okp := fun _ => True) ?hr ?hp (fun _ hk => hk) trivial (Below.refl _ _) (Nat.le_refl _) (by simp) ?_; (case hd => rfl); (case hg => rfl); (case hr => first | (go_simp; done) | (go_simp; rfl)); (case hp => exact (Reps.none _ _))
                  intro v327 w33 ho34 hb hg_ hnew_
                  clear hg_ hnew_
                  (first | rw [← Ny326.out] at ho34 | (simp only [Int.reduceToNat] at ho34; rw [← Ny326.out] at ho34))
                  have n0_ := Aside0.mk (Kd.S_elder' (by (with_reducible repeat (first | apply Kd.S_alloc | apply Kd.S_drewN | apply Kd.S_drew)); exact HO325.out) (Kd.R_base ho34) hb)
                  have n1_ := Aside0.mk (Kd.R_lower ho34 (below_size (by repeat (first | (with_reducible first | exact HB.out | apply below_alloc | apply pw_below_drewN | apply below_drew1 | refine below_set ?_ GE317.out) | exact HB.out))))
                  have n2_ := Aside0.mk (blk_below (g := gb317) (o := .cells #[.int .i64 a1_0, .string a1_1, .int .i64 a1_2, .slice A1_3 l1_3.length c1_3, .slice A1_4 l1_4.length c1_4] 26 (0, 0)) (by (with_reducible repeat (first | refine blk_drewN ?_ _ | refine blk_drew ?_ | refine blk_alloc ?_ _)); exact BK317.out) hb)
                  have n3_ := Aside0.mk (below_step (by repeat (first | (with_reducible first | exact HB.out | apply below_alloc | apply pw_below_drewN | apply below_drew1 | refine below_set ?_ GE317.out) | exact HB.out)) hb)
                  clear HO325
                  clear BK317
                  clear HB
                  have HO325 := n0_
                  have HO328 := n1_
                  have BK317 := n2_
                  have HB := n3_
                  clear n0_ n1_ n2_ n3_
                  clear hb ho34
                  refine hK.out _ _ ⟨(blk_cell BK317.out 0).trans rfl, (blk_cell BK317.out 1).trans rfl, (blk_cell BK317.out 2).trans rfl, (blk_cell BK317.out 3).trans rfl, (blk_cell BK317.out 4).trans rfl⟩ (fun hHeld => ?_)
                  clear hK K
                  refine norm_ (a' := ?_) ?_ ?_
                  rotate_left
                  · show Act.put _ (some 22) _ = _
                    simp only [Act.put, List.setIfInBounds_toArray, List.set_cons_zero, List.set_cons_succ, i64_w, i32_w]
                    rfl
                  exact norm_ (by simp only [putAll, Act.put, List.setIfInBounds_toArray, List.set_cons_zero, List.set_cons_succ]) (hCont (v324, v327) _ ⟨hHeld, (by (with_reducible repeat (first | apply Kd.S_alloc | apply Kd.S_drewN | apply Kd.S_drew)); exact Kd.S_mono HO325.out (fun _ hk => hk.2)), (by (with_reducible repeat (first | apply Kd.R_alloc | apply Kd.R_drewN | apply Kd.R_drew)); exact HO328.out), (by (with_reducible repeat (first | refine blk_drewN ?_ _ | refine blk_drew ?_ | refine blk_alloc ?_ _)); exact BK317.out), (by repeat (first | (with_reducible first | exact HB.out | apply below_alloc | apply pw_below_drewN | apply below_drew1 | refine below_set ?_ GE317.out) | exact HB.out))⟩)
                · skip
                  refine Kd.R_lit_step (Kd.int .i64) _ 3 ?hg (N := 22) ?hd (xs := ([] : List Int)) (inner := []) (ok := fun _ => True) (okp := fun _ => True) ?hr ?hp (fun _ hk => hk) trivial (Below.refl _ _) (Nat.le_refl _) (by simp) ?_; (case hd => rfl); (case hg => rfl); (case hr => first | (go_simp; done) | (go_simp; rfl)); (case hp => exact (Reps.none _ _))
                  intro v327 w32 ho33 hb hg_ hnew_
                  clear hg_ hnew_
                  (first | rw [← Ny326.out] at ho33 | (simp only [Int.reduceToNat] at ho33; rw [← Ny326.out] at ho33))
                  have n0_ := Aside0.mk (Kd.R_lower ho33 (below_size (by repeat (first | (with_reducible first | exact HB.out | apply below_alloc | apply pw_below_drewN | apply below_drew1 | refine below_set ?_ GE317.out) | exact HB.out))))
                  have n1_ := Aside0.mk (blk_below (g := gb317) (o := .cells #[.int .i64 a1_0, .string a1_1, .int .i64 a1_2, .slice A1_3 l1_3.length c1_3, .slice A1_4 l1_4.length c1_4] 26 (0, 0)) (by (with_reducible repeat (first | refine blk_drewN ?_ _ | refine blk_drew ?_ | refine blk_alloc ?_ _)); exact BK317.out) hb)
                  have n2_ := Aside0.mk (below_step (by repeat (first | (with_reducible first | exact HB.out | apply below_alloc | apply pw_below_drewN | apply below_drew1 | refine below_set ?_ GE317.out) | exact HB.out)) hb)
                  clear BK317
                  clear HB
                  have HO328 := n0_
                  have BK317 := n1_
                  have HB := n2_
                  clear n0_ n1_ n2_
                  clear hb ho33
                  refine hK.out _ _ ⟨(blk_cell BK317.out 0).trans rfl, (blk_cell BK317.out 1).trans rfl, (blk_cell BK317.out 2).trans rfl, (blk_cell BK317.out 3).trans rfl, (blk_cell BK317.out 4).trans rfl⟩ (fun hHeld => ?_)
                  clear hK K
                  refine norm_ (a' := ?_) ?_ ?_
                  rotate_left
                  · show Act.put _ (some 22) _ = _
                    simp only [Act.put, List.setIfInBounds_toArray, List.set_cons_zero, List.set_cons_succ, i64_w, i32_w]
                    rfl
                  refine one_ (i := 1) (N := some 19) #[true, true, true, true, true, true, true, false, true, false, false, false, false] rfl rfl (one_of HT_.out (by kernel_rfl)) (by decide) (fun K hK => ?_)
                  refine goes_ Tryd.func78 (by kernel_rfl) rfl #[.slice A0 l0.length c0] (by rfl) rfl rfl (by (try simp only [List.map_toArray, List.map_cons, List.map_nil]); first | done | rfl | (simp only [List.length_drop, List.length_take]; rfl)) ?_
                  with_reducible refine (spec_l3Copy.calls kj3 _ _ l0 t323 _ ?side1 ?side2 A16.out).mono ?_
                  (case side1 => repeat (first | exact (Kd.C_below HR0.out HB.out) | (with_reducible refine Kd.C_alloc ?_ _) | (with_reducible refine Kd.C_drewN ?_ _) | (with_reducible refine Kd.C_drew ?_)))
                  (case side2 => exact HC0.out)
                  rintro e w34 ⟨v324, rfl, ho0, hb⟩
                  refine ⟨_, rfl, ?_⟩
                  have n0_ := Aside0.mk (Kd.R_below (by (with_reducible repeat (first | apply Kd.R_alloc | apply Kd.R_drewN | apply Kd.R_drew)); exact HO328.out) hb)
                  have n1_ := Aside0.mk (Kd.S_lower (Kd.S_new' ho0 (Kd.R_lt (by (with_reducible repeat (first | apply Kd.R_alloc | apply Kd.R_drewN | apply Kd.R_drew)); exact HO328.out))) (below_size (by repeat (first | (with_reducible first | exact HB.out | apply below_alloc | apply pw_below_drewN | apply below_drew1 | refine below_set ?_ GE317.out) | exact HB.out))))
                  have n2_ := Aside0.mk (blk_below (g := gb317) (o := .cells #[.int .i64 a1_0, .string a1_1, .int .i64 a1_2, .slice A1_3 l1_3.length c1_3, .slice A1_4 l1_4.length c1_4] 26 (0, 0)) (by (with_reducible repeat (first | refine blk_drewN ?_ _ | refine blk_drew ?_ | refine blk_alloc ?_ _)); exact BK317.out) hb)
                  have n3_ := Aside0.mk (below_step (by repeat (first | (with_reducible first | exact HB.out | apply below_alloc | apply pw_below_drewN | apply below_drew1 | refine below_set ?_ GE317.out) | exact HB.out)) hb)
                  clear HO328
                  clear BK317
                  clear HB
                  have HO328 := n0_
                  have HO325 := n1_
                  have BK317 := n2_
                  have HB := n3_
                  clear n0_ n1_ n2_ n3_
                  (try clear hb)
                  (try clear hb2)
                  (try clear hk)
                  (try clear hi)
                  (try clear ho0)
                  refine hK.out _ _ ⟨(blk_cell BK317.out 0).trans rfl, (blk_cell BK317.out 1).trans rfl, (blk_cell BK317.out 2).trans rfl, (blk_cell BK317.out 3).trans rfl, (blk_cell BK317.out 4).trans rfl⟩ (fun hHeld => ?_)
                  clear hK K
                  refine norm_ (a' := ?_) ?_ ?_
                  rotate_left
                  · show Act.put _ (some 19) _ = _
                    simp only [Act.put, List.setIfInBounds_toArray, List.set_cons_zero, List.set_cons_succ, i64_w, i32_w]
                    rfl
                  exact norm_ (by simp only [putAll, Act.put, List.setIfInBounds_toArray, List.set_cons_zero, List.set_cons_succ]) (hCont (v324, v327) _ ⟨hHeld, (by (with_reducible repeat (first | apply Kd.S_alloc | apply Kd.S_drewN | apply Kd.S_drew)); exact Kd.S_mono HO325.out (fun _ hk => hk.2)), (by (with_reducible repeat (first | apply Kd.R_alloc | apply Kd.R_drewN | apply Kd.R_drew)); exact HO328.out), (by (with_reducible repeat (first | refine blk_drewN ?_ _ | refine blk_drew ?_ | refine blk_alloc ?_ _)); exact BK317.out), (by repeat (first | (with_reducible first | exact HB.out | apply below_alloc | apply pw_below_drewN | apply below_drew1 | refine below_set ?_ GE317.out) | exact HB.out))⟩)
              rintro ⟨v324, v327⟩ w35 ⟨hS_, h0_, h1_, h2_, h3_⟩
              have n0_ : Aside0 (Kd.S k60 60 w35 w.heap.size (fun k_ => some k_ ≠ (v327 : Value).ownBlock) v324 t323) := ⟨h0_⟩
              have n1_ : Aside0 (Kd.R (Kd.int .i64) 3 w35 w.heap.size (fun _ => True) v327 y326) := ⟨h1_⟩
              have n2_ : Aside0 (w35.heap[gb317]? = some (.cells #[.int .i64 a1_0, .string a1_1, .int .i64 a1_2, .slice A1_3 l1_3.length c1_3, .slice A1_4 l1_4.length c1_4] 26 (0, 0))) := ⟨h2_⟩
              have n3_ : Aside0 (Below w.heap.size w w35) := ⟨h3_⟩
              clear BK317
              clear HB
              clear h0_ h1_ h2_ h3_
              have HO325 := n0_
              have HO328 := n1_
              have BK317 := n2_
              have HB := n3_
              clear n0_ n1_ n2_ n3_
              have hHeld : w35.cell? ⟨gb317, 0, none⟩ = some (.int .i64 a1_0) ∧ w35.cell? ⟨gb317, 1, none⟩ = some (.string a1_1) ∧ w35.cell? ⟨gb317, 2, none⟩ = some (.int .i64 a1_2) ∧ w35.cell? ⟨gb317, 3, none⟩ = some (.slice A1_3 l1_3.length c1_3) ∧ w35.cell? ⟨gb317, 4, none⟩ = some (.slice A1_4 l1_4.length c1_4) := hS_
              refine norm_ (a' := ?_) ?_ ?_
              rotate_left
              · simp only [putAll, Act.put, List.setIfInBounds_toArray, List.set_cons_zero, List.set_cons_succ]
                rfl
              refine one_ (i := 7) (N := some 25) #[true, true, true, true, true, true, true, true, true, false, false, false, false] rfl rfl (one_of HT_.out (by kernel_rfl)) (by decide) (fun K hK => ?_)
              refine Kd.R_append_rows_step (Kd.int .i64) (w0 := w) w.heap.size (by rfl) (.tmp 22) (.tmp 24) 23 3 (.int .i64 0) 8 rfl Tryd.underlying23 info3 rfl (by decide) (by omega) v327 y326 l1_3 _ _ _ (fun _ => True) (fun _ => False) rfl rfl ?aO ?aR (fun _ _ h => h) (fun _ h => h.elim) ?aF ?aB ?aS ?aL ?_
              (case aR => repeat (first | exact (Kd.C_below HR1_3.out HB.out) | (with_reducible refine Kd.C_alloc ?_ _) | (with_reducible refine Kd.C_drewN ?_ _) | (with_reducible refine Kd.C_drew ?_)))
              (case aB => exact (by repeat (first | (with_reducible first | exact HB.out | apply below_alloc | apply pw_below_drewN | apply below_drew1 | refine below_set ?_ GE317.out) | exact HB.out)))
              (case aF => exact (fun _ _ => trivial))
              (case aO => exact (by (with_reducible repeat (first | apply Kd.R_alloc | apply Kd.R_drewN | apply Kd.R_drew)); exact HO328.out))
              (case aS => exact (below_size (by repeat (first | (with_reducible first | exact HB.out | apply below_alloc | apply pw_below_drewN | apply below_drew1 | refine below_set ?_ GE317.out) | exact HB.out))))
              (case aL => have := LMc17.out; omega)
              intro v330 w36 ho hb hg hat
              rw [← Ny329.out] at ho
              have n0_ := Aside0.mk (blk_grown (g := gb317) (o := .cells #[.int .i64 a1_0, .string a1_1, .int .i64 a1_2, .slice A1_3 l1_3.length c1_3, .slice A1_4 l1_4.length c1_4] 26 (0, 0)) (by (with_reducible repeat (first | refine blk_drewN ?_ _ | refine blk_drew ?_ | refine blk_alloc ?_ _)); exact BK317.out) hg (Kd.R_ne HO328.out BK317.out (by decide)))
              have n1_ := Aside0.mk (Kd.S_after (ok := (fun _ => True)) (by (with_reducible repeat (first | apply Kd.S_alloc | apply Kd.S_drewN | apply Kd.S_drew)); exact Kd.S_mono HO325.out (fun _ hk => ⟨trivial, hk⟩)) hg hat)
              have n2_ := Aside0.mk (hb)
              have n3_ := Aside0.mk (ho)
              clear BK317
              clear HO325
              clear HB
              clear HO328
              have BK317 := n0_
              have HO325 := n1_
              have HB := n2_
              have HO331 := n3_
              clear n0_ n1_ n2_ n3_
              clear ho hb hg hat
              obtain ⟨Ao37, co37, eo37⟩ := Kd.R_slice HO331.out
              (first | subst eo37 | (injection eo37 with f1_ f2_ f3_; have f4_ := f1_.symm; have f5_ := f3_.symm; clear f1_ f2_ f3_; subst f4_; subst f5_))
              refine hK.out _ _ ⟨(blk_cell BK317.out 0).trans rfl, (blk_cell BK317.out 1).trans rfl, (blk_cell BK317.out 2).trans rfl, (blk_cell BK317.out 3).trans rfl, (blk_cell BK317.out 4).trans rfl⟩ (fun hHeld => ?_)
              clear hK K
              refine norm_ (a' := ?_) ?_ ?_
              rotate_left
              · show Act.put _ (some 25) _ = _
                simp only [Act.put, List.setIfInBounds_toArray, List.set_cons_zero, List.set_cons_succ, i64_w, i32_w]
                rfl
              refine pure_ (i := 9) (N := some 27) (v := ?_) (a' := ?_) #[true, true, true, true, true, true, true, true, true, true, false, false, false] rfl rfl (any_of HT_.out (by kernel_rfl)) (fun _ _ _ h => h) (Or.inl ⟨by rfl, ?_⟩) ?_ ?_
              rotate_left
              · intro w'
                go_simp
                with_reducible rfl
              rotate_left
              · simp only [Act.put, List.setIfInBounds_toArray, List.set_cons_zero, List.set_cons_succ, i64_w, i32_w]
                rfl
              refine one_ (i := 10) (N := some 28) #[true, true, true, true, true, true, true, true, true, true, true, false, false] rfl rfl (one_of HT_.out (by kernel_rfl)) (by decide) (fun K hK => ?_)
              refine value_ (w1 := ?_) (v := ?_) (by rfl) rfl ?_ ?_
              rotate_left 2
              · go_simp
                constructor
                · rfl
                · rfl
              refine hK.out _ _ ⟨(blk_cell (blk_alloc BK317.out _) 0).trans rfl, (blk_cell (blk_alloc BK317.out _) 1).trans rfl, (blk_cell (blk_alloc BK317.out _) 2).trans rfl, (blk_cell (blk_alloc BK317.out _) 3).trans rfl, (blk_cell (blk_alloc BK317.out _) 4).trans rfl⟩ (fun hHeld => ?_)
              clear hK K
              refine norm_ (a' := ?_) ?_ ?_
              rotate_left
              · show Act.put _ (some 28) _ = _
                simp only [Act.put, List.setIfInBounds_toArray, List.set_cons_zero, List.set_cons_succ, i64_w, i32_w]
                rfl
              refine one_ (i := 11) (N := some 29) #[true, true, true, true, true, true, true, true, true, true, true, true, false] rfl rfl (one_of HT_.out (by kernel_rfl)) (by decide) (fun K hK => ?_)
              refine Kd.S_append_step k60 (w0 := w) w.heap.size (by rfl) (.tmp 19) (.tmp 28) 35 60 (.agg #[(.string ⟨#[]⟩), (.slice none 0 0), (.int .i64 0)]) 48 rfl Tryd.underlying35 info60 rfl (by decide) (by omega) v324 t323 (⟨a1_1, y329, a2⟩ : S60) [.string a1_1, .slice Ao37 y329.length co37, .int .i64 a2] (fun _ => True) (fun k_ => some k_ = (.slice Ao37 y329.length co37 : Value).ownBlock) rfl rfl ?aP (fun k_ hk_ => ((Kd.R_mono (ok' := fun k_ => ((fun _ => True)) k_ ∧ some k_ ≠ (v324 : Value).ownBlock) (Kd.R_apart' (HO331.out) (Kd.S_typed HO325.out) (by decide)) (fun k_ hk => ⟨trivial, hk.2⟩))).1 k_ hk_.symm) ?aF ?aO ?aB ?aS ?aL ?_
              (case aP => exact k60_mkM _ _ _ (⟨a1_1, y329, a2⟩ : S60) (Kd.R_mono (Kd.R_tight rfl (Kd.R_mono (ok' := fun k_ => ((fun _ => True)) k_ ∧ some k_ ≠ (v324 : Value).ownBlock) (Kd.R_apart' (HO331.out) (Kd.S_typed HO325.out) (by decide)) (fun k_ hk => ⟨trivial, hk.2⟩))) (fun _ h_ => h_)))
              (case aB => exact (by repeat (first | (with_reducible first | exact HB.out | apply below_alloc | apply pw_below_drewN | apply below_drew1 | refine below_set ?_ GE317.out) | exact HB.out)))
              (case aF => exact (fun _ _ => trivial))
              (case aO => exact (by (with_reducible repeat (first | apply Kd.S_alloc | apply Kd.S_drewN | apply Kd.S_drew)); exact Kd.S_mono HO325.out (fun k_ hk => ⟨trivial, fun e_ => hk.2 e_⟩)))
              (case aS => exact (below_size (by repeat (first | (with_reducible first | exact HB.out | apply below_alloc | apply pw_below_drewN | apply below_drew1 | refine below_set ?_ GE317.out) | exact HB.out))))
              (case aL => have := LMc18.out; omega)
              intro v333 w38 ho hb hg hat
              rw [← Ny332.out] at ho
              have n0_ := Aside0.mk (blk_grown (g := gb317) (o := .cells #[.int .i64 a1_0, .string a1_1, .int .i64 a1_2, .slice A1_3 l1_3.length c1_3, .slice A1_4 l1_4.length c1_4] 26 (0, 0)) (by (with_reducible repeat (first | refine blk_drewN ?_ _ | refine blk_drew ?_ | refine blk_alloc ?_ _)); exact BK317.out) hg (Kd.S_ne HO325.out BK317.out (by decide)))
              have n1_ := Aside0.mk (hb)
              have n2_ := Aside0.mk (ho)
              clear BK317
              clear HB
              clear HO325
              clear HO331
              have BK317 := n0_
              have HB := n1_
              have HO334 := n2_
              clear n0_ n1_ n2_
              clear ho hb hg hat
              refine hK.out _ _ ⟨(blk_cell BK317.out 0).trans rfl, (blk_cell BK317.out 1).trans rfl, (blk_cell BK317.out 2).trans rfl, (blk_cell BK317.out 3).trans rfl, (blk_cell BK317.out 4).trans rfl⟩ (fun hHeld => ?_)
              clear hK K
              refine norm_ (a' := ?_) ?_ ?_
              rotate_left
              · show Act.put _ (some 29) _ = _
                simp only [Act.put, List.setIfInBounds_toArray, List.set_cons_zero, List.set_cons_succ, i64_w, i32_w]
                rfl
              refine pure_ (i := 12) (N := some 8) (v := ?_) (a' := ?_) #[true, true, true, true, true, true, true, true, true, true, true, true, true] rfl rfl (any_of HT_.out (by kernel_rfl)) (fun _ _ _ h => h) (Or.inl ⟨by rfl, ?_⟩) ?_ ?_
              rotate_left
              · intro w'
                go_simp
                with_reducible rfl
              rotate_left
              · simp only [Act.put, List.setIfInBounds_toArray, List.set_cons_zero, List.set_cons_succ, i64_w, i32_w]
                rfl
              refine done_ (done_of HT_.out (by kernel_rfl)) ?_
              obtain ⟨Ao39, co39, eo39⟩ := Kd.S_slice HO334.out
              subst eo39
              try go_wp2_with (first | ((with_reducible refine gate_callee (f := 21) rfl ?_); refine goesL_ (some 31) rfl rfl Tryd.func21 (by kernel_rfl) rfl #[.slice Ao39 y332.length co39] rfl (by (try simp only [List.map_toArray, List.map_cons, List.map_nil]); first | done | rfl | (simp only [List.length_drop, List.length_take]; rfl)) ?_; (with_reducible refine (spec_BindsValid.calls kj3 _ _ y332 false _ ?side1 ?side2 A19.out).mono ?_); (case side1 => repeat (first | exact (Kd.S_reads' HO334.out).2.2 | (with_reducible refine Kd.C_alloc ?_ _) | (with_reducible refine Kd.C_drewN ?_ _) | (with_reducible refine Kd.C_drew ?_))); (case side2 => exact (Kd.S_reads' HO334.out).2.1); rintro e w40 ⟨rfl, hb⟩; refine ⟨_, rfl, ?_⟩; have n0_ := Aside0.mk (Kd.S_below (by (with_reducible repeat (first | apply Kd.S_alloc | apply Kd.S_drewN | apply Kd.S_drew)); exact HO334.out) hb); have n1_ := Aside0.mk (blk_below (g := gb317) (o := .cells #[.int .i64 a1_0, .string a1_1, .int .i64 a1_2, .slice A1_3 l1_3.length c1_3, .slice A1_4 l1_4.length c1_4] 26 (0, 0)) (by (with_reducible repeat (first | refine blk_drewN ?_ _ | refine blk_drew ?_ | refine blk_alloc ?_ _)); exact BK317.out) hb); have n2_ := Aside0.mk (below_step (by repeat (first | (with_reducible first | exact HB.out | apply below_alloc | apply pw_below_drewN | apply below_drew1 | refine below_set ?_ GE317.out) | exact HB.out)) hb); clear HO334; clear BK317; clear HB; have HO334 := n0_; have BK317 := n1_; have HB := n2_; clear n0_ n1_ n2_; (try clear hb); (try clear hb2); (try clear hk); (try clear hi)) | ((with_reducible refine gate_dst (N := 33) rfl ?_); refine Kd.S_lit k60 _ 60 ?hg (N := 33) ?hd (xs := ([] : List (S60))) (inner := []) (ok := fun _ => True) (okp := fun _ => True) ?hr ?hp (fun _ hk => hk) trivial (Below.refl _ _) (Nat.le_refl _) (by simp) ?_; (case hd => rfl); (case hg => rfl); (case hr => first | (go_simp; done) | (go_simp; rfl)); (case hp => exact (Reps.none _ _)); intro v337 w41 ho42 hb hg_ hnew_; clear hg_ hnew_; (first | rw [← Ny336.out] at ho42 | (simp only [Int.reduceToNat] at ho42; rw [← Ny336.out] at ho42)); have n0_ := Aside0.mk (Kd.S_elder' (by (with_reducible repeat (first | apply Kd.S_alloc | apply Kd.S_drewN | apply Kd.S_drew)); exact HO334.out) (Kd.S_base ho42) hb); have n1_ := Aside0.mk (Kd.S_lower (Kd.S_new' ho42 (Kd.S_lt (by (with_reducible repeat (first | apply Kd.S_alloc | apply Kd.S_drewN | apply Kd.S_drew)); exact HO334.out))) (below_size (by repeat (first | (with_reducible first | exact HB.out | apply below_alloc | apply pw_below_drewN | apply below_drew1 | refine below_set ?_ GE317.out) | exact HB.out)))); have n2_ := Aside0.mk (blk_below (g := gb317) (o := .cells #[.int .i64 a1_0, .string a1_1, .int .i64 a1_2, .slice A1_3 l1_3.length c1_3, .slice A1_4 l1_4.length c1_4] 26 (0, 0)) (by (with_reducible repeat (first | refine blk_drewN ?_ _ | refine blk_drew ?_ | refine blk_alloc ?_ _)); exact BK317.out) hb); have n3_ := Aside0.mk (below_step (by repeat (first | (with_reducible first | exact HB.out | apply below_alloc | apply pw_below_drewN | apply below_drew1 | refine below_set ?_ GE317.out) | exact HB.out)) hb); clear HO334; clear BK317; clear HB; have HO334 := n0_; have HO338 := n1_; have BK317 := n2_; have HB := n3_; clear n0_ n1_ n2_ n3_; clear hb ho42))
              go_ret2
              exact ⟨_, by first | rfl | (simp [errW_none, errW_some] <;> rfl) | (simp [*, errW_none, errW_some] <;> rfl), by (with_reducible repeat (first | apply Kd.S_alloc | apply Kd.S_drewN | apply Kd.S_drew)); exact Kd.S_mono HO338.out (fun _ hk => trivial), by repeat (first | (with_reducible first | exact HB.out | apply below_alloc | apply pw_below_drewN | apply below_drew1 | refine below_set ?_ GE317.out) | exact HB.out)⟩
          · rw [if_neg c18] at H
            exact absurd H (by simp)
        · rw [if_neg c17] at H
          exact absurd H (by simp)

end Go.Proofs.YteeepenncddnjaaDoor.Q
end
section
namespace Go.Proofs.YteeepenncddnjaaDoor
open Go.RowKit Go.Proofs.YteeepenncddnjaaDoorW.PrintWords
set_option linter.unusedVariables false
set_option linter.unusedSimpArgs false
theorem rdB {l : List Bd} {i : Nat} (h : i < l.length) : Q.rd_T60 l (i : Int) = l[i] := by
  simp [Q.rd_T60, List.getD, h]
/-- A list of bindings of a bounded size. -/
def SmB (l : List Bd) : Prop := l.length ≤ 2000000 ∧ ∀ b, b ∈ l → b.f0.size ≤ 2000000 ∧ b.f1.length ≤ 2000000
theorem SmB.nm {l : List Bd} (h : SmB l) {i : Nat} (hi : i < l.length) : l[i].f0.size ≤ 140737488351232 := by have := (h.2 _ (List.getElem_mem hi)).1; omega
/-- A loop that goes on while P holds. -/
theorem ev_all {R : Type} {L : Nat → Nat → Option R} (P : Nat → Prop) (N : Nat) (rT rF : R)
    (hs : ∀ i, i < N → P i → ∀ r, Ev (fun k => L k (i + 1)) r → Ev (fun k => L k i) r) (hf : ∀ i, i < N → ¬ P i → Ev (fun k => L k i) rF) (he : Ev (fun k => L k N) rT) :
    ((∀ i, i < N → P i) → Ev (fun k => L k 0) rT) ∧ ((¬ ∀ i, i < N → P i) → Ev (fun k => L k 0) rF) := by
  have key : ∀ m i, i + m = N → ((∀ j, i ≤ j → j < N → P j) → Ev (fun k => L k i) rT) ∧ ((¬ ∀ j, i ≤ j → j < N → P j) → Ev (fun k => L k i) rF) := by
    intro m
    induction m with
    | zero =>
      intro i hi
      obtain rfl : i = N := by omega
      exact ⟨fun _ => he, fun h => absurd (fun j h1 h2 => absurd h2 (by omega)) h⟩
    | succ m ih =>
      intro i hi
      obtain ⟨h1, h2⟩ := ih (i + 1) (by omega)
      by_cases hp : P i
      · refine ⟨fun h => hs i (by omega) hp _ (h1 (fun j ha hb => h j (by omega) hb)), fun h => hs i (by omega) hp _ (h2 (fun k => h (fun j ha hb => ?_)))⟩
        by_cases e : j = i
        · rw [e]; exact hp
        · exact k j (by omega) hb
      · exact ⟨fun h => absurd (h i (Nat.le_refl _) (by omega)) hp, fun _ => hf i (by omega) hp⟩
  obtain ⟨h1, h2⟩ := key N 0 (by omega)
  exact ⟨fun h => h1 (fun j _ hj => h j hj), fun h => h2 (fun k => h (fun j hj => k j (Nat.zero_le _) hj))⟩
section
open Go.Proofs.YteeepenncddnjaaDoor.Q
theorem bds_row {l : List Bd} (hl : SmB l) {i : Nat} (hi : i < l.length) (h60 : i ≤ 60) : (BdAt l i → ∀ r, Ev (fun k => spec_BindsValid.l0 k l ((i + 1 : Nat) : Int)) r → Ev (fun k => spec_BindsValid.l0 k l (i : Int)) r) ∧ (¬ BdAt l i → Ev (fun k => spec_BindsValid.l0 k l (i : Int)) false) := by
  have hnm := hl.nm hi
  have hI : (i : Int) < (l.length : Int) := by omega
  have h0 : (0 : Int) ≤ (i : Int) := by omega
  have hd : decide ((i : Int) ≤ 60) = true := decide_eq_true (by omega)
  have hR := rdB hi
  have pre : ∀ r, Ev (fun k => (spec_l1Scopes.f (rd_T60 l (i : Int)).f1).bind fun t417 => (if t417 = true then (if ((rd_T60 l (i : Int)).f2) < 1 then (spec_BindsValid.j2 k l (i : Int) true) else (spec_BindsValid.j2 k l (i : Int) (decide (((rd_T60 l (i : Int)).f2) > 999)))) else (spec_BindsValid.j2 k l (i : Int) true))) r → nmB l[i].f0 = true → Ev (fun k => spec_BindsValid.l0 k l (i : Int)) r := by
    intro r hr hn
    refine Ev.step (fun k => by rw [spec_BindsValid.l0]) (Ev.pos hI ?_)
    rw [hd]
    refine Ev.step (fun k => by rw [spec_BindsValid.j1]) (Ev.pos rfl (Ev.pos h0 (Ev.pos hI ?_)))
    exact Ev.bind (g := fun _ => _) (Ev.some (gIf_yes (by rw [hR]; exact hnm) _)) (Ev.pos (by rw [hR]; exact hn) hr)
  have preF : nmB l[i].f0 = false → Ev (fun k => spec_BindsValid.l0 k l (i : Int)) false := by
    intro hn
    refine Ev.step (fun k => by rw [spec_BindsValid.l0]) (Ev.pos hI ?_)
    rw [hd]
    refine Ev.step (fun k => by rw [spec_BindsValid.j1]) (Ev.pos rfl (Ev.pos h0 (Ev.pos hI ?_)))
    refine Ev.bind (g := fun _ => _) (Ev.some (gIf_yes (by rw [hR]; exact hnm) _)) (Ev.neg (by rw [hR, hn]; simp) ?_)
    exact Ev.step (fun k => by rw [spec_BindsValid.j2]) (Ev.pos rfl (Ev.now _))
  rcases hn : nmB l[i].f0 with _ | _
  · exact ⟨fun h => absurd (h hi).1.1 (nmB_false hn), fun _ => preF hn⟩
  rcases hsc : pB (ScOk l[i].f1) with _ | _
  · refine ⟨fun h => absurd (h hi).1.2.1 (pB_false hsc), fun _ => pre _ ?_ hn⟩
    refine Ev.bind (g := fun _ => _) (Ev.some rfl) (Ev.neg (by rw [hR, hsc]; simp) ?_)
    exact Ev.step (fun k => by rw [spec_BindsValid.j2]) (Ev.pos rfl (Ev.now _))
  by_cases h1 : l[i].f2 < 1
  · refine ⟨fun h => absurd (h hi).1.2.2.1 (by omega), fun _ => pre _ ?_ hn⟩
    refine Ev.bind (g := fun _ => _) (Ev.some rfl) (Ev.pos (by rw [hR]; exact hsc) (Ev.pos (by rw [hR]; exact h1) ?_))
    exact Ev.step (fun k => by rw [spec_BindsValid.j2]) (Ev.pos rfl (Ev.now _))
  by_cases h2 : l[i].f2 > 999
  · refine ⟨fun h => absurd (h hi).1.2.2.2 (by omega), fun _ => pre _ ?_ hn⟩
    refine Ev.bind (g := fun _ => _) (Ev.some rfl) (Ev.pos (by rw [hR]; exact hsc) (Ev.neg (by rw [hR]; exact h1) ?_))
    rw [hR, decide_eq_true h2]
    exact Ev.step (fun k => by rw [spec_BindsValid.j2]) (Ev.pos rfl (Ev.now _))
  have hok : BdOk l[i] := ⟨(nmB_iff _).1 hn, pB_iff.1 hsc, by omega, by omega⟩
  have hat : BdAt l i ↔ ∀ q, q < i → ¬ sameB l[i] (bdAt l q) = true := by
    constructor
    · intro h q hq hs
      have h3 := (h hi).2
      rw [List.any_eq_false] at h3
      rw [bdAt_eq (by omega)] at hs
      exact h3 l[q] (List.mem_take_iff_getElem.2 ⟨q, by omega, rfl⟩) hs
    · intro h hi'
      refine ⟨hok, ?_⟩
      rw [List.any_eq_false]
      intro b hb he
      obtain ⟨j, hj, rfl⟩ := List.mem_take_iff_getElem.1 hb
      have := h j (by omega)
      rw [bdAt_eq (by omega)] at this
      exact this he
  have inner : ∀ r, Ev (fun k => spec_BindsValid.l0 k l ((i + 1 : Nat) : Int)) r → ((∀ q, q < i → ¬ sameB l[i] (bdAt l q) = true) → Ev (fun k => spec_BindsValid.l1 k l (i : Int) ((0 : Nat) : Int)) r) ∧ ((¬ ∀ q, q < i → ¬ sameB l[i] (bdAt l q) = true) → Ev (fun k => spec_BindsValid.l1 k l (i : Int) ((0 : Nat) : Int)) false) := by
    intro r hr
    refine ev_all (L := fun k q => spec_BindsValid.l1 k l (i : Int) (q : Int)) (fun q => ¬ sameB l[i] (bdAt l q) = true) i r false ?_ ?_ ?_
    · intro q hq hp r2 hr2
      have hql : q < l.length := by omega
      rw [bdAt_eq hql, sameB_iff] at hp
      refine Ev.step (fun k => by rw [spec_BindsValid.l1]) (Ev.pos (by omega) (Ev.pos (by omega) (Ev.pos (by omega) (Ev.pos h0 (Ev.pos hI ?_)))))
      by_cases he : l[q].f0.toList = l[i].f0.toList
      · refine Ev.pos (by rw [rdB hql, hR]; exact he) (Ev.bind (g := fun _ => _) (Ev.some rfl) (Ev.neg (by rw [rdB hql, hR, decide_eq_true_iff]; exact fun h => hp ⟨he, h⟩) ?_))
        rw [wr1 _ (by omega)]
        exact hr2
      · refine Ev.neg (by rw [rdB hql, hR]; exact he) ?_
        rw [wr1 _ (by omega)]
        exact hr2
    · intro q hq hp
      have hql : q < l.length := by omega
      rw [Classical.not_not, bdAt_eq hql, sameB_iff] at hp
      refine Ev.step (fun k => by rw [spec_BindsValid.l1]) (Ev.pos (by omega) (Ev.pos (by omega) (Ev.pos (by omega) (Ev.pos h0 (Ev.pos hI (Ev.pos (by rw [rdB hql, hR]; exact hp.1) ?_))))))
      exact Ev.bind (g := fun _ => _) (Ev.some rfl) (Ev.pos (by rw [rdB hql, hR, decide_eq_true_iff]; exact hp.2) (Ev.now _))
    · refine Ev.step (fun k => by rw [spec_BindsValid.l1]) (Ev.neg (by omega) ?_)
      rw [wr1 _ (by omega)]
      exact hr
  have post : ∀ r, Ev (fun k => spec_BindsValid.l1 k l (i : Int) ((0 : Nat) : Int)) r → Ev (fun k => spec_BindsValid.l0 k l (i : Int)) r := by
    intro r hr
    refine pre _ ?_ hn
    refine Ev.bind (g := fun _ => _) (Ev.some rfl) (Ev.pos (by rw [hR]; exact hsc) (Ev.neg (by rw [hR]; exact h1) ?_))
    rw [hR, decide_eq_false h2]
    refine Ev.step (fun k => by rw [spec_BindsValid.j2]) ?_
    simp only [Bool.false_eq_true, if_false]
    exact hr
  refine ⟨fun h r hr => post r ((inner r hr).1 (hat.1 h)), fun h => post false ?_⟩
  have h3 : ¬ ∀ q, q < i → ¬ sameB l[i] (bdAt l q) = true := fun k => h (hat.2 k)
  -- the loop ends ahead of the next row
  have hstop : Ev (fun k => spec_BindsValid.l1 k l (i : Int) ((0 : Nat) : Int)) false := by
    obtain ⟨q0, hq0, hs0, hmin⟩ : ∃ q, q < i ∧ sameB l[i] (bdAt l q) = true ∧ ∀ j, j < q → ¬ sameB l[i] (bdAt l j) = true := by
      have ex : ∃ q, q < i ∧ sameB l[i] (bdAt l q) = true := Classical.byContradiction fun hno => h3 (fun q hq hs => hno ⟨q, hq, hs⟩)
      have key : ∀ m, (∃ q, q < m ∧ q < i ∧ sameB l[i] (bdAt l q) = true) → ∃ q, q < i ∧ sameB l[i] (bdAt l q) = true ∧ ∀ j, j < q → ¬ sameB l[i] (bdAt l j) = true := by
        intro m
        induction m with
        | zero => rintro ⟨q, hq, _⟩; omega
        | succ m ih =>
          rintro ⟨q, hq, hqi, hs⟩
          by_cases hless : ∃ q, q < m ∧ q < i ∧ sameB l[i] (bdAt l q) = true
          · exact ih hless
          · exact ⟨q, hqi, hs, fun j hj hsj => hless ⟨j, by omega, by omega, hsj⟩⟩
      obtain ⟨q, hq, hs⟩ := ex
      exact key i ⟨q, hq, hq, hs⟩
    have hql : q0 < l.length := by omega
    refine (ev_all (L := fun k q => spec_BindsValid.l1 k l (i : Int) (q : Int)) (fun q => ¬ sameB l[i] (bdAt l q) = true) q0 false false ?_ ?_ ?_).1 hmin
    · intro q hq hp r2 hr2
      have hql : q < l.length := by omega
      rw [bdAt_eq hql, sameB_iff] at hp
      refine Ev.step (fun k => by rw [spec_BindsValid.l1]) (Ev.pos (by omega) (Ev.pos (by omega) (Ev.pos (by omega) (Ev.pos h0 (Ev.pos hI ?_)))))
      by_cases he : l[q].f0.toList = l[i].f0.toList
      · refine Ev.pos (by rw [rdB hql, hR]; exact he) (Ev.bind (g := fun _ => _) (Ev.some rfl) (Ev.neg (by rw [rdB hql, hR, decide_eq_true_iff]; exact fun h => hp ⟨he, h⟩) ?_))
        rw [wr1 _ (by omega)]
        exact hr2
      · refine Ev.neg (by rw [rdB hql, hR]; exact he) ?_
        rw [wr1 _ (by omega)]
        exact hr2
    · intro q hq hp
      exact absurd (hmin q hq) hp
    · rw [bdAt_eq hql, sameB_iff] at hs0
      refine Ev.step (fun k => by rw [spec_BindsValid.l1]) (Ev.pos (by omega) (Ev.pos (by omega) (Ev.pos (by omega) (Ev.pos h0 (Ev.pos hI (Ev.pos (by rw [rdB hql, hR]; exact hs0.1) ?_))))))
      exact Ev.bind (g := fun _ => _) (Ev.some rfl) (Ev.pos (by rw [rdB hql, hR, decide_eq_true_iff]; exact hs0.2) (Ev.now _))
  exact hstop
theorem ev_bindsValid {l : List Bd} (hl : SmB l) : Ev (fun k => spec_BindsValid.f k l) (pB (BdsOk l)) := by
  simp only [spec_BindsValid.f]
  have hend : ∀ r, r = decide (l.length ≤ 60) → (¬ (min l.length 61) < l.length ∨ ¬ (min l.length 61) ≤ 60) → Ev (fun k => spec_BindsValid.l0 k l ((min l.length 61 : Nat) : Int)) r := by
    rintro r rfl h
    have hv : some (decide ((l.length : Int) ≤ 60)) = some (decide (l.length ≤ 60)) := by
      congr 1
      exact Bool.eq_iff_iff.2 (by rw [decide_eq_true_iff, decide_eq_true_iff]; omega)
    by_cases hlt : min l.length 61 < l.length
    · refine Ev.step (fun k => by rw [spec_BindsValid.l0]) (Ev.pos (by omega) ?_)
      rw [decide_eq_false (by omega)]
      refine Ev.step (fun k => by rw [spec_BindsValid.j1]) (Ev.neg (by simp) ?_)
      exact Ev.some hv
    · refine Ev.step (fun k => by rw [spec_BindsValid.l0]) (Ev.neg (by omega) ?_)
      refine Ev.step (fun k => by rw [spec_BindsValid.j1]) (Ev.neg (by simp) ?_)
      exact Ev.some hv
  obtain ⟨hT, hF⟩ := ev_all (L := fun k i => spec_BindsValid.l0 k l (i : Int)) (fun i => BdAt l i) (min l.length 61) (decide (l.length ≤ 60)) false
    (fun i hi hp r hr => (bds_row hl (by omega) (by omega)).1 hp r hr) (fun i hi hp => (bds_row hl (by omega) (by omega)).2 hp) (hend _ rfl (by omega))
  by_cases hall : ∀ i, i < min l.length 61 → BdAt l i
  · have := hT hall
    rw [show pB (BdsOk l) = decide (l.length ≤ 60) from ?_]
    · exact this
    by_cases h60 : l.length ≤ 60
    · rw [decide_eq_true h60]
      refine pB_iff.2 ⟨h60, fun i => ?_⟩
      by_cases hi : i < l.length
      · exact hall i (by omega)
      · exact fun h => absurd h hi
    · rw [decide_eq_false h60]
      exact (pB_no (fun h => h60 h.1)).symm
  · rw [← pB_no (show ¬ BdsOk l from fun h => hall (fun i _ => h.2 i))]
    exact hF hall
theorem ev_l3Is {x : Fm} (hx : x.tot ≤ 1048576) : spec_l3Is.f x.f0 x.f1 x.f2 x.f3 x.f4 = some (pB (IsName x)) := by
  unfold spec_l3Is.f
  by_cases h : x.f0 = 1
  · rw [if_pos h, show spec_FormValid.f x.f0 x.f1 x.f2 x.f3 x.f4 = some (pB (FmOk x)) from by cases x; exact gIf_yes hx _]
    show some (pB (FmOk x)) = _
    congr 1
    by_cases hv : FmOk x
    · rw [pB_iff.2 hv, pB_iff.2 ⟨h, hv⟩]
    · rw [← pB_no hv, ← pB_no (fun k : IsName x => hv k.2)]
  · rw [if_neg h, ← pB_no (fun k : IsName x => h k.1)]
end
end Go.Proofs.YteeepenncddnjaaDoor
end
section
namespace Go.Proofs.YteeepenncddnjaaDoor
open Go.RowKit Go.Proofs.YteeepenncddnjaaDoorW.PrintWords Go.Proofs.YteeepenncddnjaaDoorW.PrintLast Go.Proofs.YteeepenncddnjaaDoorW.PrintMore
open Go.ChangeShapes Go.WideShapes Go.ChangeAt Go.Deep
set_option linter.unusedVariables false

section
variable {H : Type} {enc : TypeId × Value → H} {W : World} {held : Bool}
instance : Inhabited Fm := ⟨zFm⟩
end
end Go.Proofs.YteeepenncddnjaaDoor
end
section
namespace Go.Proofs.YteeepenncddnjaaDoor
open Go.RowKit Go.Proofs.YteeepenncddnjaaDoorW.PrintWords Go.Proofs.YteeepenncddnjaaDoorW.PrintLast Go.Proofs.YteeepenncddnjaaDoorW.PrintMore
open Go.ChangeShapes Go.WideShapes Go.ChangeAt Go.Deep
set_option linter.unusedVariables false
set_option linter.unusedSimpArgs false
section
variable {H : Type} {enc : TypeId × Value → H} {W : World} {held : Bool}
/-- The name and the scopes of a binding have a bounded size. -/
def BdSmall (b : Bd) : Prop := b.f0.size ≤ 9223372036854775807 ∧ b.f1.length ≤ 9223372036854775807
end
end Go.Proofs.YteeepenncddnjaaDoor
end
section
namespace Go.Proofs.YteeepenncddnjaaDoor
open Go.RowKit Go.Proofs.YteeepenncddnjaaDoorW.PrintWords Go.Proofs.YteeepenncddnjaaDoorW.PrintLast Go.Proofs.YteeepenncddnjaaDoorW.PrintMore
set_option linter.unusedVariables false
set_option linter.unusedSimpArgs false

/-- What is asked of szForm at a form. -/
def SzForm (x : Fm) : Prop := ∀ (A3 : Option Addr) (c3 : Nat) (A4 : Option Addr) (c4 : Nat) (L : Int) (w : World), FmIn w x A3 c3 A4 c4 → NmSmall x → 0 ≤ L → L ≤ 1048576 →
    Calls Tryd.prog 22 #[.agg #[.int .i64 x.f0, .string x.f1, .int .i64 x.f2, .slice A3 x.f3.length c3, .slice A4 x.f4.length c4], .int .i64 L] w (Ret w (.int .i64 (szR L x.tot)))
end Go.Proofs.YteeepenncddnjaaDoor
end
section
namespace Go.Proofs.YteeepenncddnjaaDoor.Q
open Go.RowKit Go.Proofs.YteeepenncddnjaaDoorW.PrintWords Go.Proofs.YteeepenncddnjaaDoorW.PrintLast Go.Proofs.YteeepenncddnjaaDoorW.PrintMore
attribute [local go_sem] max2_int min2_int max_two min_two max_three min_three max_four min_four   -- for this text's walks alone
set_option linter.unusedVariables false
set_option linter.unusedSimpArgs false

end Go.Proofs.YteeepenncddnjaaDoor.Q
end
section
namespace Go.Proofs.YteeepenncddnjaaDoor
open Go.RowKit Go.Proofs.YteeepenncddnjaaDoorW.PrintWords
set_option linter.unusedVariables false
set_option linter.unusedSimpArgs false
def totB : List Bd → Nat
  | [] => 0
  | b :: l => b.f0.size + b.f1.length + totB l
section
open Go.Proofs.YteeepenncddnjaaDoor.Q
end
/-! The contracts. -/
def GetBs (w : World) (l : List Bd) (e : Ending) (w' : World) : Prop := ∃ A c, e = .returned (.slice A l.length c) ∧ l.length ≤ c ∧ kB.C w' A l.length l ∧ Below w.heap.size w w'
theorem specBinds_any (l : List Bd) (A : Option Addr) (c : Nat) (w : World) (hr : kB.C w A l.length l) (hc : l.length ≤ c) (hs : SmB l) : Calls Tryd.prog 21 #[.slice A l.length c] w (Ret w (.bool (pB (BdsOk l)))) := by
  obtain ⟨k, hk⟩ := (ev_bindsValid hs).rounds
  exact Q.spec_BindsValid.calls k A c l _ w hr hc hk
end Go.Proofs.YteeepenncddnjaaDoor
end
section
namespace Go.Proofs.YteeepenncddnjaaDoor.Q
open Go.RowKit Go.Proofs.YteeepenncddnjaaDoorW.PrintWords Go.Proofs.YteeepenncddnjaaDoorW.PrintLast Go.Proofs.YteeepenncddnjaaDoorW.PrintMore
set_option linter.unusedVariables false
set_option linter.unusedSimpArgs false

noncomputable def spec_l1Text.f (a0_0 : Int) (a0_1 : ByteArray) (a0_2 : Int) (l0_3 : List Int) (l0_4 : List (S26)) : Option (ByteArray) := gIf (IsOk 40 (⟨a0_0, a0_1, a0_2, l0_3, l0_4⟩ : Fm) ∧ ((⟨a0_0, a0_1, a0_2, l0_3, l0_4⟩ : Fm)).size ≤ 400) (B8 ((⟨a0_0, a0_1, a0_2, l0_3, l0_4⟩ : Fm)).txt)
set_option maxRecDepth 100000 in
theorem spec_l1Text.calls (a0_0 : Int) (a0_1 : ByteArray) (a0_2 : Int) (A0_3 : Option Addr) (c0_3 : Nat) (l0_3 : List Int) (A0_4 : Option Addr) (c0_4 : Nat) (l0_4 : List (S26)) (r : ByteArray) (w : World) (hr0_3 : Kd.C (Kd.int .i64) w A0_3 l0_3.length l0_3) (hc0_3 : l0_3.length ≤ c0_3) (hr0_4 : Kd.C k26 w A0_4 l0_4.length l0_4) (hc0_4 : l0_4.length ≤ c0_4) (h : spec_l1Text.f a0_0 a0_1 a0_2 l0_3 l0_4 = some r) :
    Calls Tryd.prog 40 #[.agg #[.int .i64 a0_0, .string a0_1, .int .i64 a0_2, .slice A0_3 l0_3.length c0_3, .slice A0_4 l0_4.length c0_4]] w fun e w' => e = .returned (.string r) ∧ Below w.heap.size w w' := by
  obtain ⟨ht, rfl⟩ := gIf_some h
  exact l1Text_any 40 (⟨a0_0, a0_1, a0_2, l0_3, l0_4⟩ : Fm) A0_3 c0_3 A0_4 c0_4 w ⟨hc0_3, hr0_3, hc0_4, hr0_4⟩ ht.1 ht.2
end Go.Proofs.YteeepenncddnjaaDoor.Q
end
section
namespace Go.Proofs.YteeepenncddnjaaDoor.Q
open Go.RowKit Go.Proofs.YteeepenncddnjaaDoorW.PrintWords Go.Proofs.YteeepenncddnjaaDoorW.PrintLast Go.Proofs.YteeepenncddnjaaDoorW.PrintMore
attribute [local go_sem] max2_int min2_int max_two min_two max_three min_three max_four min_four   -- for this text's walks alone
set_option linter.unusedVariables false
set_option linter.unusedSimpArgs false

mutual
noncomputable def spec_FormatBinds.l0 : Nat → List (S60) → ByteArray → Int → Option (ByteArray)
  | 0, _, _, _ => none
  | k + 1, x0, x3, x4 => if x4 < (x0.length : Int) then ((spec_BindsValid.f k x0).bind fun t177 => (spec_FormatBinds.j1 k x0 x3 x4 t177)) else (spec_FormatBinds.j1 k x0 x3 x4 false)
noncomputable def spec_FormatBinds.j1 : Nat → List (S60) → ByteArray → Int → Bool → Option (ByteArray)
  | 0, _, _, _, _ => none
  | k + 1, x0, x3, x4, x12 => if x12 = true then (if 0 ≤ x4 then (if x4 < (x0.length : Int) then ((spec_l1Text.f 1 ((rd_T60 x0 x4).f0) 0 ((rd_T60 x0 x4).f1) ([] : List (S26))).bind fun t180 => (if x3.size + t180.size ≤ 9223372036854775807 then (if (x3 ++ t180).size + 3 ≤ 9223372036854775807 then ((spec_l15Dec.f k ((rd_T60 x0 x4).f2)).bind fun t182 => (if ((x3 ++ t180) ++ (⟨#[32, 61, 32]⟩ : ByteArray)).size + t182.size ≤ 9223372036854775807 then (if (((x3 ++ t180) ++ (⟨#[32, 61, 32]⟩ : ByteArray)) ++ t182).size + 1 ≤ 9223372036854775807 then (spec_FormatBinds.l0 k x0 ((((x3 ++ t180) ++ (⟨#[32, 61, 32]⟩ : ByteArray)) ++ t182) ++ (⟨#[10]⟩ : ByteArray)) (wrap64 (x4 + 1))) else (none)) else (none))) else (none)) else (none))) else (none)) else (none)) else (some x3)
end
noncomputable def spec_FormatBinds.f (k : Nat) (l0 : List (S60)) : Option (ByteArray) := spec_FormatBinds.l0 k l0 (⟨#[]⟩ : ByteArray) 0
theorem spec_FormatBinds.mono_l : ∀ k, (∀ y0 y1 y2, LeO (spec_FormatBinds.l0 k y0 y1 y2) (spec_FormatBinds.l0 (k + 1) y0 y1 y2)) ∧ (∀ y0 y1 y2 y3, LeO (spec_FormatBinds.j1 k y0 y1 y2 y3) (spec_FormatBinds.j1 (k + 1) y0 y1 y2 y3))
  | 0 => ⟨fun _ _ _ r h => by simp [spec_FormatBinds.l0] at h, fun _ _ _ _ r h => by simp [spec_FormatBinds.j1] at h⟩
  | k + 1 => by
    obtain ⟨ih0, ih1⟩ := spec_FormatBinds.mono_l k
    refine ⟨?_, ?_⟩
    · intro y0 y1 y2
      unfold spec_FormatBinds.l0
      repeat' first
      | (with_reducible exact ih0 _ _ _)
      | (with_reducible exact ih1 _ _ _ _)
      | (with_reducible exact spec_BindsValid.mono _ _)
      | (with_reducible exact spec_l15Dec.mono _ _)
      | (with_reducible exact LeO.refl _)
      | (with_reducible exact LeO.none _)
      | (with_reducible refine LeO.ite ?_ ?_)
      | (with_reducible refine LeO.bind ?_ (fun _ => ?_))
      | exact ih0 _ _ _
      | exact ih1 _ _ _ _
      | exact spec_BindsValid.mono _ _
      | exact spec_l15Dec.mono _ _
      | exact LeO.none _
      | refine LeO.ite ?_ ?_
      | refine LeO.bind ?_ (fun _ => ?_)
    · intro y0 y1 y2 y3
      unfold spec_FormatBinds.j1
      repeat' first
      | (with_reducible exact ih0 _ _ _)
      | (with_reducible exact ih1 _ _ _ _)
      | (with_reducible exact spec_BindsValid.mono _ _)
      | (with_reducible exact spec_l15Dec.mono _ _)
      | (with_reducible exact LeO.refl _)
      | (with_reducible exact LeO.none _)
      | (with_reducible refine LeO.ite ?_ ?_)
      | (with_reducible refine LeO.bind ?_ (fun _ => ?_))
      | exact ih0 _ _ _
      | exact ih1 _ _ _ _
      | exact spec_BindsValid.mono _ _
      | exact spec_l15Dec.mono _ _
      | exact LeO.none _
      | refine LeO.ite ?_ ?_
      | refine LeO.bind ?_ (fun _ => ?_)
theorem spec_FormatBinds.mono : ∀ a0 k, LeO (spec_FormatBinds.f k a0) (spec_FormatBinds.f (k + 1) a0) := by
  intro a0 k
  obtain ⟨ih0, ih1⟩ := spec_FormatBinds.mono_l k
  unfold spec_FormatBinds.f
  repeat' first
      | (with_reducible exact ih0 _ _ _)
      | (with_reducible exact ih1 _ _ _ _)
      | (with_reducible exact spec_BindsValid.mono _ _)
      | (with_reducible exact spec_l15Dec.mono _ _)
      | (with_reducible exact LeO.refl _)
      | (with_reducible exact LeO.none _)
      | (with_reducible refine LeO.ite ?_ ?_)
      | (with_reducible refine LeO.bind ?_ (fun _ => ?_))
      | exact ih0 _ _ _
      | exact ih1 _ _ _ _
      | exact spec_BindsValid.mono _ _
      | exact spec_l15Dec.mono _ _
      | exact LeO.none _
      | refine LeO.ite ?_ ?_
      | refine LeO.bind ?_ (fun _ => ?_)
noncomputable def spec_FormatBinds.T5 : Bool × List (List Nat × List Nat) := (true, [([], []), ([], []), ([], []), ([1, 2], [1, 2]), ([3], [3]), ([4], [4]), ([], []), ([], []), ([6, 7], [6, 7]), ([8], [8]), ([9], [9]), ([5, 10], [5, 10]), ([11], [11]), ([0, 12], [0, 12]), ([13], [13]), ([], []), ([], []), ([15, 16], [15, 16]), ([17], [17]), ([18], [18]), ([19, 12], [19]), ([14, 20], [14, 20]), ([21], [21]), ([22, 20, 0, 1, 2, 3, 4, 5, 6, 7, 8, 9, 10, 11, 12, 13, 14, 15, 16, 17, 18, 19, 20, 21, 22], [0, 22])])
noncomputable def spec_FormatBinds.B5 : List Nat := [0, 0, 0, 6, 14, 30, 0, 0, 192, 448, 960, 2046, 4094, 8191, 16383, 0, 0, 98304, 229376, 491520, 1023998, 2097151, 4194303, 8388607]
theorem spec_FormatBinds.tab5 : rtab .any (opsOf Tryd.f20 5) = spec_FormatBinds.T5 := by kernel_rfl
theorem spec_FormatBinds.bits5 : waitsOk spec_FormatBinds.T5.2 spec_FormatBinds.B5 = true := by kernel_rfl
set_option maxHeartbeats 8000000 in
set_option maxRecDepth 100000 in
theorem spec_FormatBinds.calls (k : Nat) (A0 : Option Addr) (c0 : Nat) (l0 : List (S60)) (r : ByteArray) (w : World) (hr0 : Kd.C k60 w A0 l0.length l0) (hc0 : l0.length ≤ c0) (h : spec_FormatBinds.f k l0 = some r) :
    Calls Tryd.prog 20 #[.slice A0 l0.length c0] w fun e w' => e = .returned (.string r) ∧ Below w.heap.size w w' := by
  have hu26 := Tryd.underlying26
  have HR0 := Aside0.mk hr0
  have HC0 := Aside0.mk hc0
  clear hr0 hc0
  have HB := Aside0.mk (Below.refl w.heap.size w)
  have H : (spec_FormatBinds.l0 k l0 (⟨#[]⟩ : ByteArray) 0) = some r := h
  clear h
  have H' := Aside0.mk H
  clear H
  go_enter Tryd.func20, Tryd.ntmps20
  go_wp2
  go_loopg [3, 4] k (fun kq v3 v4 w' => ∃ (x3_1 : ByteArray) (x4_1 : Int), v3 = .string x3_1 ∧ v4 = .int .i64 x4_1 ∧ Aside0 (spec_FormatBinds.l0 kq l0 x3_1 x4_1 = some r) ∧ Aside0 (kq ≤ k) ∧ Aside0 (Below w.heap.size w w'))
  case atStart => exact ⟨((⟨#[]⟩ : ByteArray)), (0), (by first | rfl | (simp; done) | (simp [*]; done)), (by first | rfl | (simp; done) | (simp [*]; done)), H', ⟨Nat.le_refl _⟩, ⟨by repeat (first | (with_reducible first | exact HB.out | apply below_alloc | apply pw_below_drewN | apply below_drew1) | exact HB.out)⟩⟩
  case round =>
    clear H'
    obtain ⟨x3_1, x4_1, rfl, rfl, HA, HK1, HB⟩ := hrel
    cases gk with
    | zero => exact absurd HA.out (by simp [spec_FormatBinds.l0])
    | succ k1 =>
      have H := HA.out
      clear HA
      simp only [spec_FormatBinds.l0] at H
      have HC2 := Aside0.mk H
      clear H
      go_upto_region 3 with (fail)
      go_cut [12] (fun v12 wc => ∃ (kq : Nat) (x12_1 : Bool), v12 = .bool x12_1 ∧ Aside0 (spec_FormatBinds.j1 kq l0 x3_1 x4_1 x12_1 = some r) ∧ Aside0 (kq ≤ k1) ∧ Aside0 (Below w.heap.size w wc))
      case first =>
        have H := HC2.out
        clear HC2
        by_cases c3 : x4_1 < (l0.length : Int)
        · rw [if_pos c3] at H
          have c3b0 : decide (x4_1 < (l0.length : Int)) = true := decide_eq_true c3
          clear c3
          (first | rw [c3b0] | (simp only [i64_w, i32_w]; rw [c3b0]) | skip)
          replace H := Option.bind_eq_some_iff.mp H
          obtain ⟨t177, A40, H⟩ := H
          replace H : (spec_FormatBinds.j1 k1 l0 x3_1 x4_1 t177) = some r := H
          have A4 := Aside0.mk A40
          clear A40
          have H' := Aside0.mk H
          clear H
          go_wp2_with (first | (go_at_call 21; (with_reducible refine (spec_BindsValid.calls k1 _ _ l0 t177 _ ?side1 ?side2 A4.out).mono ?_); (case side1 => repeat (first | exact (Kd.C_below HR0.out HB.out) | (with_reducible refine Kd.C_alloc ?_ _) | (with_reducible refine Kd.C_drewN ?_ _) | (with_reducible refine Kd.C_drew ?_))); (case side2 => exact HC0.out); rintro e w5 ⟨rfl, hb⟩; have n0_ := Aside0.mk (below_step (by repeat (first | (with_reducible first | exact HB.out | apply below_alloc | apply pw_below_drewN | apply below_drew1) | exact HB.out)) hb); clear HB; have HB := n0_; clear n0_; (try clear hb); (try clear hb2); (try clear hk); (try clear hi)))
          go_meet
          case rel => exact ⟨_, (t177), (by first | rfl | (simp; done) | (simp [*]; done)), H', ⟨by have := HK1.out; first | omega | exact Nat.le_refl _⟩, ⟨by repeat (first | (with_reducible first | exact HB.out | apply below_alloc | apply pw_below_drewN | apply below_drew1) | exact HB.out)⟩⟩
        · rw [if_neg c3] at H
          have c3b0 : decide (x4_1 < (l0.length : Int)) = false := decide_eq_false c3
          clear c3
          (first | rw [c3b0] | (simp only [i64_w, i32_w]; rw [c3b0]) | skip)
          have H' := Aside0.mk H
          clear H
          go_wp2
          go_meet
          case rel => exact ⟨_, (false), (by first | rfl | (simp; done) | (simp [*]; done)), H', ⟨by have := HK1.out; first | omega | exact Nat.le_refl _⟩, ⟨by repeat (first | (with_reducible first | exact HB.out | apply below_alloc | apply pw_below_drewN | apply below_drew1) | exact HB.out)⟩⟩
      case rest =>
        clear HC2
        try clear c2
        try clear p2
        try clear c3
        try clear c3b0
        obtain ⟨kq, x12_1, rfl, HA, HJ1, HB⟩ := hcut
        cases kq with
        | zero => exact absurd HA.out (by simp [spec_FormatBinds.j1])
        | succ kj1 =>
          have H := HA.out
          clear HA
          simp only [spec_FormatBinds.j1] at H
          by_cases c6 : x12_1 = true
          · subst c6
            have H1 : (if 0 ≤ x4_1 then (if x4_1 < (l0.length : Int) then ((spec_l1Text.f 1 ((rd_T60 l0 x4_1).f0) 0 ((rd_T60 l0 x4_1).f1) ([] : List (S26))).bind fun t180 => (if x3_1.size + t180.size ≤ 9223372036854775807 then (if (x3_1 ++ t180).size + 3 ≤ 9223372036854775807 then ((spec_l15Dec.f kj1 ((rd_T60 l0 x4_1).f2)).bind fun t182 => (if ((x3_1 ++ t180) ++ (⟨#[32, 61, 32]⟩ : ByteArray)).size + t182.size ≤ 9223372036854775807 then (if (((x3_1 ++ t180) ++ (⟨#[32, 61, 32]⟩ : ByteArray)) ++ t182).size + 1 ≤ 9223372036854775807 then (spec_FormatBinds.l0 kj1 l0 ((((x3_1 ++ t180) ++ (⟨#[32, 61, 32]⟩ : ByteArray)) ++ t182) ++ (⟨#[10]⟩ : ByteArray)) (wrap64 (x4_1 + 1))) else (none)) else (none))) else (none)) else (none))) else (none)) else (none)) = some r := by rw [if_pos rfl] at H; exact H
            clear H
            have H := H1
            clear H1
            by_cases c7 : 0 ≤ x4_1
            · rw [if_pos c7] at H
              have c7b0 : decide (0 ≤ x4_1) = true := decide_eq_true c7
              clear c7
              by_cases c8 : x4_1 < (l0.length : Int)
              · rw [if_pos c8] at H
                have c8b0 : decide (x4_1 < (l0.length : Int)) = true := decide_eq_true c8
                clear c8
                replace H := Option.bind_eq_some_iff.mp H
                obtain ⟨t180, A90, H⟩ := H
                replace H : (if x3_1.size + t180.size ≤ 9223372036854775807 then (if (x3_1 ++ t180).size + 3 ≤ 9223372036854775807 then ((spec_l15Dec.f kj1 ((rd_T60 l0 x4_1).f2)).bind fun t182 => (if ((x3_1 ++ t180) ++ (⟨#[32, 61, 32]⟩ : ByteArray)).size + t182.size ≤ 9223372036854775807 then (if (((x3_1 ++ t180) ++ (⟨#[32, 61, 32]⟩ : ByteArray)) ++ t182).size + 1 ≤ 9223372036854775807 then (spec_FormatBinds.l0 kj1 l0 ((((x3_1 ++ t180) ++ (⟨#[32, 61, 32]⟩ : ByteArray)) ++ t182) ++ (⟨#[10]⟩ : ByteArray)) (wrap64 (x4_1 + 1))) else (none)) else (none))) else (none)) else (none)) = some r := H
                have A9 := Aside0.mk A90
                clear A90
                by_cases c10 : x3_1.size + t180.size ≤ 9223372036854775807
                · rw [if_pos c10] at H
                  have c10b0 := eq_true c10
                  have c10b1 : decide (x3_1.size + t180.size ≤ 9223372036854775807) = true := decide_eq_true c10
                  try have c10b2 : (9223372036854775807 < x3_1.size + t180.size) = False := eq_false (Nat.not_lt.2 c10)
                  by_cases c11 : (x3_1 ++ t180).size + 3 ≤ 9223372036854775807
                  · rw [if_pos c11] at H
                    have c11b0 := eq_true c11
                    have c11b1 : decide ((x3_1 ++ t180).size + 3 ≤ 9223372036854775807) = true := decide_eq_true c11
                    try have c11b2 : (9223372036854775807 < (x3_1 ++ t180).size + 3) = False := eq_false (Nat.not_lt.2 c11)
                    have c11b3 : (9223372036854775807 < x3_1.size + t180.size + 3) = False := eq_false (by have h_ := c11; simp only [ByteArray.size_append] at h_; omega)
                    replace H := Option.bind_eq_some_iff.mp H
                    obtain ⟨t182, A120, H⟩ := H
                    replace H : (if ((x3_1 ++ t180) ++ (⟨#[32, 61, 32]⟩ : ByteArray)).size + t182.size ≤ 9223372036854775807 then (if (((x3_1 ++ t180) ++ (⟨#[32, 61, 32]⟩ : ByteArray)) ++ t182).size + 1 ≤ 9223372036854775807 then (spec_FormatBinds.l0 kj1 l0 ((((x3_1 ++ t180) ++ (⟨#[32, 61, 32]⟩ : ByteArray)) ++ t182) ++ (⟨#[10]⟩ : ByteArray)) (wrap64 (x4_1 + 1))) else (none)) else (none)) = some r := H
                    have A12 := Aside0.mk A120
                    clear A120
                    by_cases c13 : ((x3_1 ++ t180) ++ (⟨#[32, 61, 32]⟩ : ByteArray)).size + t182.size ≤ 9223372036854775807
                    · rw [if_pos c13] at H
                      have c13b0 := eq_true c13
                      have c13b1 : decide (((x3_1 ++ t180) ++ (⟨#[32, 61, 32]⟩ : ByteArray)).size + t182.size ≤ 9223372036854775807) = true := decide_eq_true c13
                      try have c13b2 : (9223372036854775807 < ((x3_1 ++ t180) ++ (⟨#[32, 61, 32]⟩ : ByteArray)).size + t182.size) = False := eq_false (Nat.not_lt.2 c13)
                      have c13b3 : (9223372036854775807 < x3_1.size + t180.size + 3 + t182.size) = False := eq_false (by have h_ := c13; simp only [ByteArray.size_append] at h_; have z0_ : (⟨#[32, 61, 32]⟩ : ByteArray).size = 3 := rfl; omega)
                      by_cases c14 : (((x3_1 ++ t180) ++ (⟨#[32, 61, 32]⟩ : ByteArray)) ++ t182).size + 1 ≤ 9223372036854775807
                      · rw [if_pos c14] at H
                        have c14b0 := eq_true c14
                        have c14b1 : decide ((((x3_1 ++ t180) ++ (⟨#[32, 61, 32]⟩ : ByteArray)) ++ t182).size + 1 ≤ 9223372036854775807) = true := decide_eq_true c14
                        try have c14b2 : (9223372036854775807 < (((x3_1 ++ t180) ++ (⟨#[32, 61, 32]⟩ : ByteArray)) ++ t182).size + 1) = False := eq_false (Nat.not_lt.2 c14)
                        have c14b3 : (9223372036854775807 < x3_1.size + t180.size + 3 + t182.size + 1) = False := eq_false (by have h_ := c14; simp only [ByteArray.size_append] at h_; have z0_ : (⟨#[32, 61, 32]⟩ : ByteArray).size = 3 := rfl; omega)
                        have H' := Aside0.mk H
                        clear H
                        try go_wp2
                        have n0_ := Aside0.mk (below_drew1 HB.out)
                        clear HB
                        have HB := n0_
                        clear n0_
                        have p178 : 0 ≤ (x4_1 : Int) := of_decide_eq_true (by first | (with_reducible assumption) | assumption)
                        have q178 : x4_1 < (l0.length : Int) := of_decide_eq_true (by first | (with_reducible assumption) | assumption)
                        obtain ⟨ad178, A178_1, c178_1, e178, hx178_0, hx178_1, hx178_2, hl178_1, hi178_1⟩ := at_T60 HR0.out x4_1 p178 q178
                        have hw178_2 := hx178_2
                        have hw178_1 := hx178_1
                        have hw178_0 := hx178_0
                        cases e178
                        replace hx178_0 := (HB.out.cell (World.block_lt_of_cell? w _ hx178_0)).trans hx178_0
                        replace hx178_1 := (HB.out.cell (World.block_lt_of_cell? w _ hx178_1)).trans hx178_1
                        replace hx178_2 := (HB.out.cell (World.block_lt_of_cell? w _ hx178_2)).trans hx178_2
                        have HR178_1 := Aside0.mk hi178_1
                        have HC178_1 := Aside0.mk hl178_1
                        clear hi178_1 hl178_1
                        replace p178 := eq_true p178
                        replace q178 := eq_true q178
                        have p179 : 0 ≤ (x4_1 : Int) := of_decide_eq_true (by first | (with_reducible assumption) | assumption)
                        have q179 : x4_1 < (l0.length : Int) := of_decide_eq_true (by first | (with_reducible assumption) | assumption)
                        obtain ⟨ad179, A179_1, c179_1, e179, hx179_0, hx179_1, hx179_2, hl179_1, hi179_1⟩ := at_T60 HR0.out x4_1 p179 q179
                        have hw179_2 := hx179_2
                        have hw179_1 := hx179_1
                        have hw179_0 := hx179_0
                        obtain rfl : ad178 = ad179 := (by injection e179)
                        replace hx179_0 := (HB.out.cell (World.block_lt_of_cell? w _ hx179_0)).trans hx179_0
                        replace hx179_1 := (HB.out.cell (World.block_lt_of_cell? w _ hx179_1)).trans hx179_1
                        replace hx179_2 := (HB.out.cell (World.block_lt_of_cell? w _ hx179_2)).trans hx179_2
                        have HR179_1 := Aside0.mk hi179_1
                        have HC179_1 := Aside0.mk hl179_1
                        clear hi179_1 hl179_1
                        replace p179 := eq_true p179
                        replace q179 := eq_true q179
                        have ea_ := Option.some.inj (hx178_1.symm.trans hx179_1)
                        injection ea_ with ea_ en_ ec_
                        subst ea_
                        subst ec_
                        clear en_
                        have p181 : 0 ≤ (x4_1 : Int) := of_decide_eq_true (by first | (with_reducible assumption) | assumption)
                        have q181 : x4_1 < (l0.length : Int) := of_decide_eq_true (by first | (with_reducible assumption) | assumption)
                        obtain ⟨ad181, A181_1, c181_1, e181, hx181_0, hx181_1, hx181_2, hl181_1, hi181_1⟩ := at_T60 HR0.out x4_1 p181 q181
                        have hw181_2 := hx181_2
                        have hw181_1 := hx181_1
                        have hw181_0 := hx181_0
                        obtain rfl : ad178 = ad181 := (by injection e181)
                        replace hx181_0 := (HB.out.cell (World.block_lt_of_cell? w _ hx181_0)).trans hx181_0
                        replace hx181_1 := (HB.out.cell (World.block_lt_of_cell? w _ hx181_1)).trans hx181_1
                        replace hx181_2 := (HB.out.cell (World.block_lt_of_cell? w _ hx181_2)).trans hx181_2
                        have HR181_1 := Aside0.mk hi181_1
                        have HC181_1 := Aside0.mk hl181_1
                        clear hi181_1 hl181_1
                        replace p181 := eq_true p181
                        replace q181 := eq_true q181
                        have ea_ := Option.some.inj (hx178_1.symm.trans hx181_1)
                        injection ea_ with ea_ en_ ec_
                        subst ea_
                        subst ec_
                        clear en_
                        refine start_ (n := 24) (S := fun w' => w'.cell? (ad178.add ((x4_1).toNat * 3)) = some (.string ((rd_T60 l0 x4_1).f0)) ∧ w'.cell? ⟨(ad178.add ((x4_1).toNat * 3)).block, (ad178.add ((x4_1).toNat * 3)).off + 1, none⟩ = some (.slice A178_1 ((rd_T60 l0 x4_1).f1).length c178_1) ∧ w'.cell? ⟨(ad178.add ((x4_1).toNat * 3)).block, (ad178.add ((x4_1).toNat * 3)).off + 2, none⟩ = some (.int .i64 ((rd_T60 l0 x4_1).f2)) ∧ w'.cell? (ad178.add ((x4_1).toNat * 3)) = some (.string ((rd_T60 l0 x4_1).f0)) ∧ w'.cell? ⟨(ad178.add ((x4_1).toNat * 3)).block, (ad178.add ((x4_1).toNat * 3)).off + 1, none⟩ = some (.slice A178_1 ((rd_T60 l0 x4_1).f1).length c178_1) ∧ w'.cell? ⟨(ad178.add ((x4_1).toNat * 3)).block, (ad178.add ((x4_1).toNat * 3)).off + 2, none⟩ = some (.int .i64 ((rd_T60 l0 x4_1).f2)) ∧ w'.cell? (ad178.add ((x4_1).toNat * 3)) = some (.string ((rd_T60 l0 x4_1).f0)) ∧ w'.cell? ⟨(ad178.add ((x4_1).toNat * 3)).block, (ad178.add ((x4_1).toNat * 3)).off + 1, none⟩ = some (.slice A178_1 ((rd_T60 l0 x4_1).f1).length c178_1) ∧ w'.cell? ⟨(ad178.add ((x4_1).toNat * 3)).block, (ad178.add ((x4_1).toNat * 3)).off + 2, none⟩ = some (.int .i64 ((rd_T60 l0 x4_1).f2))) (ds := []) #[false, false, false, false, false, false, false, false, false, false, false, false, false, false, false, false, false, false, false, false, false, false, false, false] (by kernel_rfl) rfl rfl ⟨((HB.out.cell (World.block_lt_of_cell? w _ hw178_0)).trans hw178_0), ((HB.out.cell (World.block_lt_of_cell? w _ hw178_1)).trans hw178_1), ((HB.out.cell (World.block_lt_of_cell? w _ hw178_2)).trans hw178_2), ((HB.out.cell (World.block_lt_of_cell? w _ hw179_0)).trans hw179_0), ((HB.out.cell (World.block_lt_of_cell? w _ hw179_1)).trans hw179_1), ((HB.out.cell (World.block_lt_of_cell? w _ hw179_2)).trans hw179_2), ((HB.out.cell (World.block_lt_of_cell? w _ hw181_0)).trans hw181_0), ((HB.out.cell (World.block_lt_of_cell? w _ hw181_1)).trans hw181_1), ((HB.out.cell (World.block_lt_of_cell? w _ hw181_2)).trans hw181_2)⟩ (fun hHeld => ?_); refine with_tabW spec_FormatBinds.tab5 spec_FormatBinds.bits5 (fun HT_ HW_ => ?_)
                        generalize wc.drew = w15 at HB HR178_1 HR179_1 HR181_1 hx178_0 hx178_1 hx178_2 hx179_0 hx179_1 hx179_2 hx181_0 hx181_1 hx181_2 hHeld ⊢
                        refine pure_ (i := 0) (N := some 15) (v := ?_) (a' := ?_) #[true, false, false, false, false, false, false, false, false, false, false, false, false, false, false, false, false, false, false, false, false, false, false, false] rfl rfl (any_of HT_.out (by kernel_rfl)) (fun _ _ _ h => h) (Or.inl ⟨by rfl, ?_⟩) ?_ ?_
                        rotate_left
                        · intro w'
                          go_simp
                          with_reducible rfl
                        rotate_left
                        · simp only [Act.put, List.setIfInBounds_toArray, List.set_cons_zero, List.set_cons_succ, i64_w, i32_w]
                          rfl
                        refine pure_ (i := 1) (N := some 16) (v := ?_) (a' := ?_) #[true, true, false, false, false, false, false, false, false, false, false, false, false, false, false, false, false, false, false, false, false, false, false, false] rfl rfl (any_of HT_.out (by kernel_rfl)) (fun _ _ _ h => h) (Or.inl ⟨by rfl, ?_⟩) ?_ ?_
                        rotate_left
                        · intro w'
                          go_simp
                          with_reducible rfl
                        rotate_left
                        · simp only [Act.put, List.setIfInBounds_toArray, List.set_cons_zero, List.set_cons_succ, i64_w, i32_w]
                          rfl
                        refine pure_ (i := 2) (N := some 17) (v := ?_) (a' := ?_) #[true, true, true, false, false, false, false, false, false, false, false, false, false, false, false, false, false, false, false, false, false, false, false, false] rfl rfl (any_of HT_.out (by kernel_rfl)) (fun _ _ _ h => h) (Or.inl ⟨by rfl, ?_⟩) ?_ ?_
                        rotate_left
                        · intro w'
                          go_simp
                          with_reducible rfl
                        rotate_left
                        · simp only [Act.put, List.setIfInBounds_toArray, List.set_cons_zero, List.set_cons_succ, i64_w, i32_w]
                          rfl
                        refine pure_ (i := 3) (N := some 18) (v := ?_) (a' := ?_) #[true, true, true, true, false, false, false, false, false, false, false, false, false, false, false, false, false, false, false, false, false, false, false, false] rfl rfl (any_of HT_.out (by kernel_rfl)) (fun _ _ _ h => h) (Or.inl ⟨by rfl, ?_⟩) ?_ ?_
                        rotate_left
                        · intro w'
                          go_simp
                          with_reducible rfl
                        rotate_left
                        · simp only [Act.put, List.setIfInBounds_toArray, List.set_cons_zero, List.set_cons_succ, i64_w, i32_w]
                          rfl
                        refine pure_ (i := 4) (N := some 19) (v := ?_) (a' := ?_) #[true, true, true, true, true, false, false, false, false, false, false, false, false, false, false, false, false, false, false, false, false, false, false, false] rfl rfl (any_of HT_.out (by kernel_rfl)) (fun _ _ _ h => h) (Or.inl ⟨by rfl, ?_⟩) ?_ ?_
                        rotate_left
                        · intro w'
                          go_simp
                          with_reducible rfl
                        rotate_left
                        · simp only [Act.put, List.setIfInBounds_toArray, List.set_cons_zero, List.set_cons_succ, i64_w, i32_w]
                          rfl
                        refine pure_ (i := 6) (N := some 21) (v := ?_) (a' := ?_) #[true, true, true, true, true, false, true, false, false, false, false, false, false, false, false, false, false, false, false, false, false, false, false, false] rfl rfl (any_of HT_.out (by kernel_rfl)) (fun _ _ _ h => h) (Or.inl ⟨by rfl, ?_⟩) ?_ ?_
                        rotate_left
                        · intro w'
                          go_simp
                          with_reducible rfl
                        rotate_left
                        · simp only [Act.put, List.setIfInBounds_toArray, List.set_cons_zero, List.set_cons_succ, i64_w, i32_w]
                          rfl
                        refine pure_ (i := 7) (N := some 22) (v := ?_) (a' := ?_) #[true, true, true, true, true, false, true, true, false, false, false, false, false, false, false, false, false, false, false, false, false, false, false, false] rfl rfl (any_of HT_.out (by kernel_rfl)) (fun _ _ _ h => h) (Or.inl ⟨by rfl, ?_⟩) ?_ ?_
                        rotate_left
                        · intro w'
                          go_simp
                          with_reducible rfl
                        rotate_left
                        · simp only [Act.put, List.setIfInBounds_toArray, List.set_cons_zero, List.set_cons_succ, i64_w, i32_w]
                          rfl
                        refine pure_ (i := 8) (N := some 23) (v := ?_) (a' := ?_) #[true, true, true, true, true, false, true, true, true, false, false, false, false, false, false, false, false, false, false, false, false, false, false, false] rfl rfl (any_of HT_.out (by kernel_rfl)) (fun _ _ _ h => h) (Or.inl ⟨by rfl, ?_⟩) ?_ ?_
                        rotate_left
                        · intro w'
                          go_simp
                          with_reducible rfl
                        rotate_left
                        · simp only [Act.put, List.setIfInBounds_toArray, List.set_cons_zero, List.set_cons_succ, i64_w, i32_w]
                          rfl
                        refine pure_ (i := 9) (N := some 24) (v := ?_) (a' := ?_) #[true, true, true, true, true, false, true, true, true, true, false, false, false, false, false, false, false, false, false, false, false, false, false, false] rfl rfl (any_of HT_.out (by kernel_rfl)) (fun _ _ _ h => h) (Or.inl ⟨by rfl, ?_⟩) ?_ ?_
                        rotate_left
                        · intro w'
                          go_simp
                          with_reducible rfl
                        rotate_left
                        · simp only [Act.put, List.setIfInBounds_toArray, List.set_cons_zero, List.set_cons_succ, i64_w, i32_w]
                          rfl
                        refine pure_ (i := 15) (N := some 30) (v := ?_) (a' := ?_) #[true, true, true, true, true, false, true, true, true, true, false, false, false, false, false, true, false, false, false, false, false, false, false, false] rfl rfl (any_of HT_.out (by kernel_rfl)) (fun _ _ _ h => h) (Or.inl ⟨by rfl, ?_⟩) ?_ ?_
                        rotate_left
                        · intro w'
                          go_simp
                          with_reducible rfl
                        rotate_left
                        · simp only [Act.put, List.setIfInBounds_toArray, List.set_cons_zero, List.set_cons_succ, i64_w, i32_w]
                          rfl
                        refine pure_ (i := 16) (N := some 31) (v := ?_) (a' := ?_) #[true, true, true, true, true, false, true, true, true, true, false, false, false, false, false, true, true, false, false, false, false, false, false, false] rfl rfl (any_of HT_.out (by kernel_rfl)) (fun _ _ _ h => h) (Or.inl ⟨by rfl, ?_⟩) ?_ ?_
                        rotate_left
                        · intro w'
                          go_simp
                          with_reducible rfl
                        rotate_left
                        · simp only [Act.put, List.setIfInBounds_toArray, List.set_cons_zero, List.set_cons_succ, i64_w, i32_w]
                          rfl
                        refine pure_ (i := 17) (N := some 32) (v := ?_) (a' := ?_) #[true, true, true, true, true, false, true, true, true, true, false, false, false, false, false, true, true, true, false, false, false, false, false, false] rfl rfl (any_of HT_.out (by kernel_rfl)) (fun _ _ _ h => h) (Or.inl ⟨by rfl, ?_⟩) ?_ ?_
                        rotate_left
                        · intro w'
                          go_simp
                          with_reducible rfl
                        rotate_left
                        · simp only [Act.put, List.setIfInBounds_toArray, List.set_cons_zero, List.set_cons_succ, i64_w, i32_w]
                          rfl
                        refine pure_ (i := 18) (N := some 33) (v := ?_) (a' := ?_) #[true, true, true, true, true, false, true, true, true, true, false, false, false, false, false, true, true, true, true, false, false, false, false, false] rfl rfl (any_of HT_.out (by kernel_rfl)) (fun _ _ _ h => h) (Or.inl ⟨by rfl, ?_⟩) ?_ ?_
                        rotate_left
                        · intro w'
                          go_simp
                          with_reducible rfl
                        rotate_left
                        · simp only [Act.put, List.setIfInBounds_toArray, List.set_cons_zero, List.set_cons_succ, i64_w, i32_w]
                          rfl
                        refine take_ (i := 5) (N := some 20) (v := ?_) (a' := ?_) #[true, true, true, true, true, true, true, true, true, true, false, false, false, false, false, true, true, true, true, false, false, false, false, false] rfl rfl (take_ofW HT_.out HW_.out (by kernel_rfl)) (fun _ _ _ h => h) (Or.inl ⟨by rfl, ?_⟩) hHeld ?_ ?_
                        rotate_left
                        · rintro w' ⟨s0, s1, s2, s3, s4, s5, s6, s7, s8⟩
                          go_simp
                          with_reducible rfl
                        rotate_left
                        · simp only [Act.put, List.setIfInBounds_toArray, List.set_cons_zero, List.set_cons_succ, i64_w, i32_w]
                          rfl
                        refine take_ (i := 10) (N := some 25) (v := ?_) (a' := ?_) #[true, true, true, true, true, true, true, true, true, true, true, false, false, false, false, true, true, true, true, false, false, false, false, false] rfl rfl (take_ofW HT_.out HW_.out (by kernel_rfl)) (fun _ _ _ h => h) (Or.inl ⟨by rfl, ?_⟩) hHeld ?_ ?_
                        rotate_left
                        · rintro w' ⟨s0, s1, s2, s3, s4, s5, s6, s7, s8⟩
                          go_simp
                          with_reducible rfl
                        rotate_left
                        · simp only [Act.put, List.setIfInBounds_toArray, List.set_cons_zero, List.set_cons_succ, i64_w, i32_w]
                          rfl
                        refine pure_ (i := 11) (N := some 26) (v := ?_) (a' := ?_) #[true, true, true, true, true, true, true, true, true, true, true, true, false, false, false, true, true, true, true, false, false, false, false, false] rfl rfl (any_of HT_.out (by kernel_rfl)) (fun _ _ _ h => h) (Or.inl ⟨by rfl, ?_⟩) ?_ ?_
                        rotate_left
                        · intro w'
                          go_simp
                          with_reducible rfl
                        rotate_left
                        · simp only [Act.put, List.setIfInBounds_toArray, List.set_cons_zero, List.set_cons_succ, i64_w, i32_w]
                          rfl
                        refine take_ (i := 19) (N := some 34) (v := ?_) (a' := ?_) #[true, true, true, true, true, true, true, true, true, true, true, true, false, false, false, true, true, true, true, true, false, false, false, false] rfl rfl (take_ofW HT_.out HW_.out (by kernel_rfl)) (fun _ _ _ h => h) (Or.inl ⟨by rfl, ?_⟩) hHeld ?_ ?_
                        rotate_left
                        · rintro w' ⟨s0, s1, s2, s3, s4, s5, s6, s7, s8⟩
                          go_simp
                          with_reducible rfl
                        rotate_left
                        · simp only [Act.put, List.setIfInBounds_toArray, List.set_cons_zero, List.set_cons_succ, i64_w, i32_w]
                          rfl
                        refine one_ (i := 12) (N := some 27) #[true, true, true, true, true, true, true, true, true, true, true, true, true, false, false, true, true, true, true, true, false, false, false, false] rfl rfl (one_of HT_.out (by kernel_rfl)) (by decide) (fun K hK => ?_)
                        refine goes_ Tryd.func40 (by kernel_rfl) rfl #[.agg #[.int .i64 1, .string ((rd_T60 l0 x4_1).f0), .int .i64 0, .slice A178_1 ((rd_T60 l0 x4_1).f1).length c178_1, .slice none 0 0]] (by rfl) rfl rfl (by (try simp only [List.map_toArray, List.map_cons, List.map_nil]); first | done | rfl | (simp only [List.length_drop, List.length_take]; rfl)) ?_
                        refine (spec_l1Text.calls 1 ((rd_T60 l0 x4_1).f0) 0 _ _ ((rd_T60 l0 x4_1).f1) _ _ ([] : List (S26)) t180 _ ?side1 ?side2 ?side3 ?side4 A9.out).mono ?_
                        (case side1 => repeat (first | exact (Kd.C_below HR179_1.out HB.out) | (with_reducible refine Kd.C_alloc ?_ _) | (with_reducible refine Kd.C_drewN ?_ _) | (with_reducible refine Kd.C_drew ?_)))
                        (case side2 => exact HC179_1.out)
                        (case side3 => exact Kd.C_nil _ _)
                        (case side4 => exact Nat.le_refl _)
                        rintro e w16 ⟨rfl, hb⟩
                        refine ⟨_, rfl, ?_⟩
                        have n0_ := Aside0.mk (below_step (by repeat (first | (with_reducible first | exact HB.out | apply below_alloc | apply pw_below_drewN | apply below_drew1) | exact HB.out)) hb)
                        clear HB
                        have HB := n0_
                        clear n0_
                        (try clear hb)
                        (try clear hb2)
                        (try clear hk)
                        (try clear hi)
                        refine hK.out _ _ ⟨((HB.out.cell (World.block_lt_of_cell? w _ hw178_0)).trans hw178_0), ((HB.out.cell (World.block_lt_of_cell? w _ hw178_1)).trans hw178_1), ((HB.out.cell (World.block_lt_of_cell? w _ hw178_2)).trans hw178_2), ((HB.out.cell (World.block_lt_of_cell? w _ hw179_0)).trans hw179_0), ((HB.out.cell (World.block_lt_of_cell? w _ hw179_1)).trans hw179_1), ((HB.out.cell (World.block_lt_of_cell? w _ hw179_2)).trans hw179_2), ((HB.out.cell (World.block_lt_of_cell? w _ hw181_0)).trans hw181_0), ((HB.out.cell (World.block_lt_of_cell? w _ hw181_1)).trans hw181_1), ((HB.out.cell (World.block_lt_of_cell? w _ hw181_2)).trans hw181_2)⟩ (fun hHeld => ?_)
                        clear hK K
                        refine norm_ (a' := ?_) ?_ ?_
                        rotate_left
                        · show Act.put _ (some 27) _ = _
                          simp only [Act.put, List.setIfInBounds_toArray, List.set_cons_zero, List.set_cons_succ, i64_w, i32_w]
                          rfl
                        refine pure_ (i := 13) (N := some 28) (v := ?_) (a' := ?_) #[true, true, true, true, true, true, true, true, true, true, true, true, true, true, false, true, true, true, true, true, false, false, false, false] rfl rfl (any_of HT_.out (by kernel_rfl)) (fun _ _ _ h => h) (Or.inl ⟨by rfl, ?_⟩) ?_ ?_
                        rotate_left
                        · intro w'
                          go_simp
                          with_reducible rfl
                        rotate_left
                        · simp only [Act.put, List.setIfInBounds_toArray, List.set_cons_zero, List.set_cons_succ, i64_w, i32_w]
                          rfl
                        refine pure_ (i := 14) (N := some 29) (v := ?_) (a' := ?_) #[true, true, true, true, true, true, true, true, true, true, true, true, true, true, true, true, true, true, true, true, false, false, false, false] rfl rfl (any_of HT_.out (by kernel_rfl)) (fun _ _ _ h => h) (Or.inl ⟨by rfl, ?_⟩) ?_ ?_
                        rotate_left
                        · intro w'
                          go_simp
                          with_reducible rfl
                        rotate_left
                        · simp only [Act.put, List.setIfInBounds_toArray, List.set_cons_zero, List.set_cons_succ, i64_w, i32_w]
                          rfl
                        refine one_ (i := 20) (N := some 35) #[true, true, true, true, true, true, true, true, true, true, true, true, true, true, true, true, true, true, true, true, true, false, false, false] rfl rfl (one_of HT_.out (by kernel_rfl)) (by decide) (fun K hK => ?_)
                        refine goes_ Tryd.func49 (by kernel_rfl) rfl #[.int .i64 ((rd_T60 l0 x4_1).f2)] (by rfl) rfl rfl (by (try simp only [List.map_toArray, List.map_cons, List.map_nil]); first | done | rfl | (simp only [List.length_drop, List.length_take]; rfl)) ?_
                        with_reducible refine (spec_l15Dec.calls kj1 ((rd_T60 l0 x4_1).f2) t182 _ A12.out).mono ?_
                        rintro e w17 ⟨rfl, hb⟩
                        refine ⟨_, rfl, ?_⟩
                        have n0_ := Aside0.mk (below_step (by repeat (first | (with_reducible first | exact HB.out | apply below_alloc | apply pw_below_drewN | apply below_drew1) | exact HB.out)) hb)
                        clear HB
                        have HB := n0_
                        clear n0_
                        (try clear hb)
                        (try clear hb2)
                        (try clear hk)
                        (try clear hi)
                        refine hK.out _ _ ⟨((HB.out.cell (World.block_lt_of_cell? w _ hw178_0)).trans hw178_0), ((HB.out.cell (World.block_lt_of_cell? w _ hw178_1)).trans hw178_1), ((HB.out.cell (World.block_lt_of_cell? w _ hw178_2)).trans hw178_2), ((HB.out.cell (World.block_lt_of_cell? w _ hw179_0)).trans hw179_0), ((HB.out.cell (World.block_lt_of_cell? w _ hw179_1)).trans hw179_1), ((HB.out.cell (World.block_lt_of_cell? w _ hw179_2)).trans hw179_2), ((HB.out.cell (World.block_lt_of_cell? w _ hw181_0)).trans hw181_0), ((HB.out.cell (World.block_lt_of_cell? w _ hw181_1)).trans hw181_1), ((HB.out.cell (World.block_lt_of_cell? w _ hw181_2)).trans hw181_2)⟩ (fun hHeld => ?_)
                        clear hK K
                        refine norm_ (a' := ?_) ?_ ?_
                        rotate_left
                        · show Act.put _ (some 35) _ = _
                          simp only [Act.put, List.setIfInBounds_toArray, List.set_cons_zero, List.set_cons_succ, i64_w, i32_w]
                          rfl
                        refine pure_ (i := 21) (N := some 36) (v := ?_) (a' := ?_) #[true, true, true, true, true, true, true, true, true, true, true, true, true, true, true, true, true, true, true, true, true, true, false, false] rfl rfl (any_of HT_.out (by kernel_rfl)) (fun _ _ _ h => h) (Or.inl ⟨by rfl, ?_⟩) ?_ ?_
                        rotate_left
                        · intro w'
                          go_simp
                          with_reducible rfl
                        rotate_left
                        · simp only [Act.put, List.setIfInBounds_toArray, List.set_cons_zero, List.set_cons_succ, i64_w, i32_w]
                          rfl
                        refine pure_ (i := 22) (N := some 37) (v := ?_) (a' := ?_) #[true, true, true, true, true, true, true, true, true, true, true, true, true, true, true, true, true, true, true, true, true, true, true, false] rfl rfl (any_of HT_.out (by kernel_rfl)) (fun _ _ _ h => h) (Or.inl ⟨by rfl, ?_⟩) ?_ ?_
                        rotate_left
                        · intro w'
                          go_simp
                          with_reducible rfl
                        rotate_left
                        · simp only [Act.put, List.setIfInBounds_toArray, List.set_cons_zero, List.set_cons_succ, i64_w, i32_w]
                          rfl
                        refine pure_ (i := 23) (N := some 3) (v := ?_) (a' := ?_) #[true, true, true, true, true, true, true, true, true, true, true, true, true, true, true, true, true, true, true, true, true, true, true, true] rfl rfl (any_of HT_.out (by kernel_rfl)) (fun _ _ _ h => h) (Or.inl ⟨by rfl, ?_⟩) ?_ ?_
                        rotate_left
                        · intro w'
                          go_simp
                          with_reducible rfl
                        rotate_left
                        · simp only [Act.put, List.setIfInBounds_toArray, List.set_cons_zero, List.set_cons_succ, i64_w, i32_w]
                          rfl
                        refine done_ (done_of HT_.out (by kernel_rfl)) ?_
                        try go_wp2
                        go_roundg kj1
                        case measure => have := HK1.out; have := HJ1.out; omega
                        case rel => exact ⟨((((x3_1 ++ t180) ++ (⟨#[32, 61, 32]⟩ : ByteArray)) ++ t182) ++ (⟨#[10]⟩ : ByteArray)), (wrap64 (x4_1 + 1)), (by first | rfl | (simp; done) | (simp [*]; done)), (by first | rfl | (simp; done) | (simp [*]; done)), H', ⟨by have := HK1.out; have := HJ1.out; omega⟩, ⟨by repeat (first | (with_reducible first | exact HB.out | apply below_alloc | apply pw_below_drewN | apply below_drew1) | exact HB.out)⟩⟩
                      · rw [if_neg c14] at H
                        exact absurd H (by simp)
                    · rw [if_neg c13] at H
                      exact absurd H (by simp)
                  · rw [if_neg c11] at H
                    exact absurd H (by simp)
                · rw [if_neg c10] at H
                  exact absurd H (by simp)
              · rw [if_neg c8] at H
                exact absurd H (by simp)
            · rw [if_neg c7] at H
              exact absurd H (by simp)
          · replace c6 := Bool.eq_false_iff.mpr c6
            subst c6
            have H1 : (some x3_1) = some r := by rw [if_neg (show ¬ (false = true) by decide)] at H; exact H
            clear H
            have H := H1
            clear H1
            obtain rfl := Option.some.inj H
            go_wp2
            go_ret
            exact ⟨by first | rfl | (simp [errW_none, errW_some] <;> rfl) | (simp [*, errW_none, errW_some] <;> rfl), by repeat (first | (with_reducible first | exact HB.out | apply below_alloc | apply pw_below_drewN | apply below_drew1) | exact HB.out)⟩

end Go.Proofs.YteeepenncddnjaaDoor.Q
end
section
namespace Go.Proofs.YteeepenncddnjaaDoor
open Go.RowKit Go.Proofs.YteeepenncddnjaaDoorW.PrintWords
set_option linter.unusedVariables false
set_option linter.unusedSimpArgs false
def lnT (b : Bd) : List UInt8 := nameT b.f0 b.f1 ++ (32 :: 61 :: 32 :: (Lib.itoa b.f2 ++ [10]))
def bindsT (l : List Bd) : List UInt8 := (l.map lnT).flatten
noncomputable def fmtB (l : List Bd) : ByteArray := if pB (BdsOk l) = true then B8 (bindsT l) else ⟨#[]⟩
theorem bindsT_next {l : List Bd} {i : Nat} (h : i < l.length) : bindsT (l.take (i + 1)) = bindsT (l.take i) ++ lnT l[i] := by
  rw [bindsT, bindsT, List.take_succ_eq_append_getElem h, List.map_append, List.flatten_append]
  simp only [List.map_cons, List.map_nil, List.flatten_cons, List.flatten_nil, List.append_nil]
theorem bdsOk_mem {l : List Bd} (h : BdsOk l) {i : Nat} (hi : i < l.length) : BdOk l[i] := (h.2 i hi).1
theorem lnT_len {b : Bd} (h : BdOk b) : (lnT b).length ≤ 117 := by
  have a := nameT_len h.1 h.2.1
  have c := itoa_len b.f2 (by have := h.2.2.1; omega) h.2.2.2
  simp [lnT]
  omega
theorem bindsT_len {l : List Bd} (h : BdsOk l) : ∀ i, i ≤ l.length → (bindsT (l.take i)).length ≤ 117 * i
  | 0, _ => by simp [bindsT]
  | i + 1, hi => by
    rw [bindsT_next (by omega), List.length_append]
    have := bindsT_len h i (by omega)
    have := lnT_len (bdsOk_mem h (show i < l.length by omega))
    omega
theorem fmtB_size (l : List Bd) : (fmtB l).size ≤ 100000 := by
  unfold fmtB
  split
  · rename_i h
    have q := pB_iff.1 h
    have := bindsT_len q l.length (Nat.le_refl _)
    have := q.1
    rw [List.take_length] at *
    rw [B8_size]; omega
  · show (ByteArray.mk #[]).size ≤ 100000
    have : (ByteArray.mk #[]).size = 0 := rfl
    omega
/-- A binding's name as_ a form. -/
abbrev nmF (b : Bd) : Fm := ⟨1, b.f0, 0, b.f1, []⟩
theorem nmF_ok {b : Bd} (h : BdOk b) : IsOk 40 (nmF b) ∧ (nmF b).size ≤ 400 :=
  ⟨(isOk1 (n := 39) (x := nmF b) rfl).2 ⟨h.1, rfl, h.2.1, rfl⟩, by rw [Fm.size_eq]; simp [sizes]⟩
theorem nmF_txt (b : Bd) : (nmF b).txt = nameT b.f0 b.f1 := by rw [Fm.txt_eq, if_neg (show ¬ ((1 : Int) = 2) by decide), if_pos rfl]
theorem lnT_B8 (p : List UInt8) (b : Bd) : B8 p ++ B8 (nmF b).txt ++ ⟨#[32, 61, 32]⟩ ++ B8 (Lib.itoa b.f2) ++ ⟨#[10]⟩ = B8 (p ++ lnT b) := by
  rw [nmF_txt, show (⟨#[32, 61, 32]⟩ : ByteArray) = B8 [32, 61, 32] from rfl, show (⟨#[10]⟩ : ByteArray) = B8 [10] from rfl, B8_append, B8_append, B8_append, B8_append, lnT]
  simp [List.append_assoc]
section
open Go.Proofs.YteeepenncddnjaaDoor.Q
theorem ev_formatBinds {l : List Bd} (hl : SmB l) : Ev (fun k => spec_FormatBinds.f k l) (fmtB l) := by
  simp only [spec_FormatBinds.f]
  have h0 := hl.1
  by_cases hv : BdsOk l
  · have hT : fmtB l = B8 (bindsT (l.take l.length)) := by rw [fmtB, if_pos (pB_iff.2 hv), List.take_length]
    obtain ⟨r, hp, hr⟩ := ev_loop (L := fun k (s : Int × ByteArray) => spec_FormatBinds.l0 k l s.2 s.1) (fun i s => s = ((i : Int), B8 (bindsT (l.take i)))) l.length (· = fmtB l) (by
      rintro i s hi rfl
      have hb := bdsOk_mem hv hi
      have hn := nmF_ok hb
      have hlen := bindsT_len hv i (by omega)
      have h60 := hv.1
      have e1 : (B8 (bindsT (l.take i))).size ≤ 7020 := by rw [B8_size]; omega
      have e2 : (B8 (nmF l[i]).txt).size ≤ 110 := by rw [B8_size, nmF_txt]; exact nameT_len hb.1 hb.2.1
      have e4 : (B8 (⟨1, l[i].f0, 0, l[i].f1, []⟩ : Fm).txt).size ≤ 110 := e2
      have e3 : (B8 (Lib.itoa l[i].f2)).size ≤ 3 := by rw [B8_size]; exact itoa_len _ (by have := hb.2.2.1; omega) hb.2.2.2
      have z3 : (⟨#[32, 61, 32]⟩ : ByteArray).size = 3 := rfl
      have z1 : (⟨#[10]⟩ : ByteArray).size = 1 := rfl
      refine ⟨((i + 1 : Nat), B8 (bindsT (l.take (i + 1)))), rfl, fun r hr => ?_⟩
      refine Ev.step (fun k => by rw [spec_FormatBinds.l0]) (Ev.pos (by simpa using hi) (Ev.bind (ev_bindsValid hl) (Ev.step (fun k => by rw [spec_FormatBinds.j1]) (Ev.pos (pB_iff.2 hv) (Ev.pos (by simp) (Ev.pos (by simpa using hi) ?_))))))
      rw [rdB hi]
      dsimp only
      refine Ev.bind (g := fun _ => _) (Ev.some (gIf_yes hn _)) (Ev.pos (by omega) (Ev.pos (by rw [ByteArray.size_append]; omega) (Ev.bind (ev_l15 _ (by have := hb.2.2.1; omega) hb.2.2.2) (Ev.pos (by rw [ByteArray.size_append, ByteArray.size_append, z3]; omega) (Ev.pos (by rw [ByteArray.size_append, ByteArray.size_append, ByteArray.size_append, z3]; omega) ?_)))))
      rw [wr1 _ (by omega)]
      rw [bindsT_next hi] at hr
      rw [lnT_B8]
      exact hr) (by
      rintro s rfl
      exact ⟨_, hT.symm, Ev.step (fun k => by rw [spec_FormatBinds.l0]) (Ev.neg (by simp) (Ev.step (fun k => by rw [spec_FormatBinds.j1]) (Ev.neg (by simp) (Ev.now _))))⟩) (0, ⟨#[]⟩) rfl
    subst hp
    exact hr
  · have hT : fmtB l = ⟨#[]⟩ := by rw [fmtB, if_neg (fun h => hv (pB_iff.1 h))]
    have hne : 0 < l.length := by
      rcases Nat.eq_zero_or_pos l.length with h | h
      · exact absurd (show BdsOk l from ⟨by omega, fun i hi => by omega⟩) hv
      · exact h
    rw [hT]
    refine Ev.step (fun k => by rw [spec_FormatBinds.l0]) (Ev.pos (by omega) (Ev.bind (ev_bindsValid hl) (Ev.step (fun k => by rw [spec_FormatBinds.j1]) (Ev.neg (by rw [← pB_no hv]; simp) (Ev.now _)))))
end
theorem specFormatB_any (l : List Bd) (A : Option Addr) (c : Nat) (w : World) (hr : kB.C w A l.length l) (hc : l.length ≤ c) (hs : SmB l) : Calls Tryd.prog 20 #[.slice A l.length c] w (Ret w (.string (fmtB l))) := by
  obtain ⟨k, hk⟩ := (ev_formatBinds hs).rounds
  exact Q.spec_FormatBinds.calls k A c l _ w hr hc hk
end Go.Proofs.YteeepenncddnjaaDoor
end
section
namespace Go.Proofs.YteeepenncddnjaaDoor.Q
open Go.RowKit Go.Proofs.YteeepenncddnjaaDoorW.PrintWords Go.Proofs.YteeepenncddnjaaDoorW.PrintLast Go.Proofs.YteeepenncddnjaaDoorW.PrintMore
attribute [local go_sem] max2_int min2_int max_two min_two max_three min_three max_four min_four   -- for this text's walks alone
set_option linter.unusedVariables false
set_option linter.unusedSimpArgs false

noncomputable def impl_nameForm.f (a0 : ByteArray) (l1 : List Int) : Option (Int × ByteArray × Int × List Int × (List (S26))) := (slices_Clone_int_int.f l1).bind fun t151 => (some (1, a0, 0, t151, ([] : List (S26))))
set_option maxHeartbeats 8000000 in
set_option maxRecDepth 100000 in
theorem impl_nameForm.calls (a0 : ByteArray) (A1 : Option Addr) (c1 : Nat) (l1 : List Int) (r1 : Int) (r2 : ByteArray) (r3 : Int) (r4 : List Int) (r5 : List (S26)) (w : World) (hr1 : Kd.C (Kd.int .i64) w A1 l1.length l1) (hc1 : l1.length ≤ c1) (h : impl_nameForm.f a0 l1 = some (r1, r2, r3, r4, r5)) :
    Calls Tryd.prog 42 #[.string a0, .slice A1 l1.length c1] w fun e w' => ∃ v3_ v4_ : Value, e = .returned (.agg #[.int .i64 r1, .string r2, .int .i64 r3, v3_, v4_]) ∧ Kd.R (Kd.int .i64) 3 w' w.heap.size (fun _ => True) v3_ r4 ∧ Kd.R k26 26 w' w.heap.size (fun k_ => some k_ ≠ (v3_ : Value).ownBlock) v4_ r5 ∧ Below w.heap.size w w' := by
  have hu26 := Tryd.underlying26
  have HR1 := Aside0.mk hr1
  have HC1 := Aside0.mk hc1
  clear hr1 hc1
  have HB := Aside0.mk (Below.refl w.heap.size w)
  have H : ((slices_Clone_int_int.f l1).bind fun t151 => (some (1, a0, 0, t151, ([] : List (S26))))) = some (r1, r2, r3, r4, r5) := h
  clear h
  replace H := Option.bind_eq_some_iff.mp H
  obtain ⟨t151, A30, H⟩ := H
  replace H : (some (1, a0, 0, t151, ([] : List (S26)))) = some (r1, r2, r3, r4, r5) := H
  have A3 := Aside0.mk A30
  clear A30
  simp only [Option.some.injEq, Prod.mk.injEq] at H
  obtain ⟨rfl, rfl, rfl, rfl, rfl⟩ := H
  go_enter Tryd.func42, Tryd.ntmps42
  go_wp2_with (first | ((with_reducible refine gate_dst (N := 4) rfl ?_); refine box_event ?hg (N := 4) ?hd (cs := #[.int .i64 0, .string (⟨#[]⟩ : ByteArray), .int .i64 0, .slice none 0 0, .slice none 0 0]) (t := 26) ?hr ?_; (case hd => rfl); (case hg => rfl); (case hr => first | (go_simp; done) | (go_simp; rfl)); intro gb150 hg w4 hbox hb; have n0_ := Aside0.mk (below_step (by repeat (first | (with_reducible first | exact HB.out | apply below_alloc | apply pw_below_drewN | apply below_drew1) | exact HB.out)) hb); have n1_ := Aside0.mk (hbox); have n2_ := Aside0.mk ((by rw [hg]; exact (below_size (by repeat (first | (with_reducible first | exact HB.out | apply below_alloc | apply pw_below_drewN | apply below_drew1) | exact HB.out))) : w.heap.size ≤ gb150)); have n3_ := Aside0.mk ((by rw [hg]; exact (below_size (by repeat (first | (with_reducible first | exact HB.out | apply below_alloc | apply pw_below_drewN | apply below_drew1) | exact HB.out))) : w.heap.size ≤ gb150)); clear HB; have HB := n0_; have BK150 := n1_; have GW150 := n2_; have GE150 := n3_; clear n0_ n1_ n2_ n3_; clear hb hbox hg) | ((with_reducible refine gate_callee (f := 70) rfl ?_); refine goesL_ (some 7) rfl rfl Tryd.func70 (by kernel_rfl) rfl #[.slice A1 l1.length c1] rfl (by (try simp only [List.map_toArray, List.map_cons, List.map_nil]); first | done | rfl | (simp only [List.length_drop, List.length_take]; rfl)) ?_; (with_reducible refine (slices_Clone_int_int.calls _ _ l1 t151 _ ?side1 ?side2 A3.out).mono ?_); (case side1 => repeat (first | exact (Kd.C_below HR1.out HB.out) | (with_reducible refine Kd.C_alloc ?_ _) | (with_reducible refine Kd.C_drewN ?_ _) | (with_reducible refine Kd.C_drew ?_))); (case side2 => exact HC1.out); rintro e w5 ⟨v152, rfl, ho0, hb⟩; refine ⟨_, rfl, ?_⟩; have n0_ := Aside0.mk (Kd.R_lower ho0 (below_size (by repeat (first | (with_reducible first | exact HB.out | apply below_alloc | apply pw_below_drewN | apply below_drew1 | refine below_set ?_ GE150.out) | exact HB.out)))); have n1_ := Aside0.mk (blk_below (g := gb150) (o := .cells #[.int .i64 0, .string (⟨#[]⟩ : ByteArray), .int .i64 0, .slice none 0 0, .slice none 0 0] 26 (0, 0)) (by (with_reducible repeat (first | refine blk_drewN ?_ _ | refine blk_drew ?_ | refine blk_alloc ?_ _)); exact BK150.out) hb); have n2_ := Aside0.mk (below_step (by repeat (first | (with_reducible first | exact HB.out | apply below_alloc | apply pw_below_drewN | apply below_drew1 | refine below_set ?_ GE150.out) | exact HB.out)) hb); clear BK150; clear HB; have HO153 := n0_; have BK150 := n1_; have HB := n2_; clear n0_ n1_ n2_; (try clear hb); (try clear hb2); (try clear hk); (try clear hi); (try clear ho0); obtain ⟨Ao6, co6, eo6⟩ := Kd.R_slice HO153.out; subst eo6; have hcz7_0 : w5.cell? ⟨gb150, 0, none⟩ = some (.int .i64 0) := (blk_cell BK150.out 0).trans rfl; have hcz7_1 : w5.cell? ⟨gb150, 1, none⟩ = some (.string (⟨#[]⟩ : ByteArray)) := (blk_cell BK150.out 1).trans rfl; have hcz7_2 : w5.cell? ⟨gb150, 2, none⟩ = some (.int .i64 0) := (blk_cell BK150.out 2).trans rfl; have hcz7_3 : w5.cell? ⟨gb150, 3, none⟩ = some (.slice none 0 0) := (blk_cell BK150.out 3).trans rfl; have hcz7_4 : w5.cell? ⟨gb150, 4, none⟩ = some (.slice none 0 0) := (blk_cell BK150.out 4).trans rfl; have hfz7_0 := blk_frozen BK150.out 0; have hfz7_1 := blk_frozen BK150.out 1; have hfz7_2 := blk_frozen BK150.out 2; have hfz7_3 := blk_frozen BK150.out 3; have hfz7_4 := blk_frozen BK150.out 4))
  refine bodyPost_ret (results_cell_row rfl _ _ gb150 26 #[.int .i64 1, .string a0, .int .i64 0, .slice Ao6 t151.length co6, .slice none 0 0] (0, 0) _ rfl (by (with_reducible repeat (first | refine blk_drewN ?_ _ | refine blk_drew ?_ | refine blk_alloc ?_ _)); refine blk_put (cs := #[.int .i64 1, .string a0, .int .i64 0, .slice Ao6 t151.length co6, .slice none 0 0]) ?_ 4 _ rfl; (with_reducible repeat (first | refine blk_drewN ?_ _ | refine blk_drew ?_ | refine blk_alloc ?_ _)); refine blk_put (cs := #[.int .i64 1, .string a0, .int .i64 0, .slice none 0 0, .slice none 0 0]) ?_ 3 _ rfl; (with_reducible repeat (first | refine blk_drewN ?_ _ | refine blk_drew ?_ | refine blk_alloc ?_ _)); refine blk_put (cs := #[.int .i64 1, .string a0, .int .i64 0, .slice none 0 0, .slice none 0 0]) ?_ 2 _ rfl; (with_reducible repeat (first | refine blk_drewN ?_ _ | refine blk_drew ?_ | refine blk_alloc ?_ _)); refine blk_put (cs := #[.int .i64 1, .string (⟨#[]⟩ : ByteArray), .int .i64 0, .slice none 0 0, .slice none 0 0]) ?_ 1 _ rfl; (with_reducible repeat (first | refine blk_drewN ?_ _ | refine blk_drew ?_ | refine blk_alloc ?_ _)); refine blk_put (cs := #[.int .i64 0, .string (⟨#[]⟩ : ByteArray), .int .i64 0, .slice none 0 0, .slice none 0 0]) ?_ 0 _ rfl; (with_reducible repeat (first | refine blk_drewN ?_ _ | refine blk_drew ?_ | refine blk_alloc ?_ _)); exact BK150.out) Tryd.underlying26 rfl (by kernel_rfl)) rfl ?_
  exact ⟨_, _, by first | rfl | (simp [errW_none, errW_some] <;> rfl) | (simp [*, errW_none, errW_some] <;> rfl), by (with_reducible repeat (first | apply Kd.R_alloc | apply Kd.R_drewN | apply Kd.R_drew)); exact Kd.R_mono (Kd.R_far (p := ⟨gb150, 4, none⟩) (Kd.R_far (p := ⟨gb150, 3, none⟩) (Kd.R_far (p := ⟨gb150, 2, none⟩) (Kd.R_far (p := ⟨gb150, 1, none⟩) (Kd.R_far (p := ⟨gb150, 0, none⟩) (Kd.R_types HO153.out BK150.out (by decide)) (fun _ hk => hk.2) (.int .i64 1)) (fun _ hk => hk.2) (.string a0)) (fun _ hk => hk.2) (.int .i64 0)) (fun _ hk => hk.2) (.slice Ao6 t151.length co6)) (fun _ hk => hk.2) (.slice none 0 0)) (fun _ hk => trivial), by first | exact Kd.R_nil _ _ _ _ _ | exact Kd.N_nil _ _ _ _ _ | exact Kd.V_nil _ _ _ _ _ | exact Kd.Q_nil _ _ _ _ _ | exact Kd.S_nil _ _ _ _ _, by repeat (first | (with_reducible first | exact HB.out | apply below_alloc | apply pw_below_drewN | apply below_drew1 | refine below_set ?_ GE150.out) | exact HB.out)⟩

end Go.Proofs.YteeepenncddnjaaDoor.Q
end
section
namespace Go.Proofs.YteeepenncddnjaaDoor
open Go.RowKit Go.Proofs.YteeepenncddnjaaDoorW.PrintWords Go.Proofs.YteeepenncddnjaaDoorW.PrintLast Go.Proofs.YteeepenncddnjaaDoorW.PrintMore
set_option linter.unusedVariables false
set_option linter.unusedSimpArgs false
theorem nameForm_any (b : Bd) (A : Option Addr) (c : Nat) (w : World) (hi : BdIn w b A c) (hl : b.f1.length ≤ 24) :
    Calls Tryd.prog 42 #[.string b.f0, .slice A b.f1.length c] w (fun e w' => ∃ A3 c3 A4 c4, e = .returned (.agg #[.int .i64 1, .string b.f0, .int .i64 0, .slice A3 b.f1.length c3, .slice A4 0 c4]) ∧ FmIn w' (nmF b) A3 c3 A4 c4 ∧ Below w.heap.size w w') := by
  refine (Q.impl_nameForm.calls b.f0 A c b.f1 1 b.f0 0 b.f1 [] w hi.g1 hi.l1 ?_).mono ?_
  · rw [Q.impl_nameForm.f, Q.slices_Clone_int_int.f, gIf_yes (by omega)]; rfl
  · rintro e w' ⟨v3, v4, rfl, h3, h4, hb⟩
    obtain ⟨A3, c3, rfl, hc3, g3⟩ := Kd.R_reads h3
    obtain ⟨A4, c4, rfl, hc4, g4⟩ := Kd.R_reads h4
    exact ⟨A3, c3, A4, c4, rfl, ⟨hc3, g3, hc4, g4⟩, hb⟩
theorem fText (b : Bd) (hok : BdOk b) (A3 : Option Addr) (c3 : Nat) (A4 : Option Addr) (c4 : Nat) (w : World) (hin : FmIn w (nmF b) A3 c3 A4 c4) (htab : TabP w) :
    Calls Tryd.prog 37 #[.agg #[.int .i64 1, .string b.f0, .int .i64 0, .slice A3 b.f1.length c3, .slice A4 0 c4]] w (Ret w (.string (B8 (nmF b).txt))) :=
  formText_any 40 (nmF b) A3 c3 A4 c4 w hin (nmF_ok hok).1 (nmF_ok hok).2 htab
theorem keep3 {w1 w2 : World} (hb : Below w1.heap.size w1 w2) {a0 a1 a2 : Addr} {v0 v1 v2 : Value} (h : w1.cell? a0 = some v0 ∧ w1.cell? a1 = some v1 ∧ w1.cell? a2 = some v2) : w2.cell? a0 = some v0 ∧ w2.cell? a1 = some v1 ∧ w2.cell? a2 = some v2 :=
  ⟨ck0 hb h.1, ck0 hb h.2.1, ck0 hb h.2.2⟩
set_option maxHeartbeats 4000000 in
set_option maxRecDepth 100000 in
theorem implFormatB_any (l : List Bd) (A : Option Addr) (c : Nat) (w : World) (hr : kB.C w A l.length l) (hc : l.length ≤ c) (hs : SmB l) (htab : TabP w) :
    Calls Tryd.prog 18 #[.slice A l.length c] w (Ret w (.string (fmtB l))) := by
  have hmax := hr.2.1
  have HR := Lib.hid hr
  have HTB := Lib.hid (fun W (hb : Below w.heap.size w W) => htab.below hb)
  have HC := Lib.hid (implBinds_any l A c w hr hc (fun b hb => by have := (hs.2 b hb).1; omega))
  clear hr hs htab
  by_cases hv : BdsOk l
  rotate_left
  · have HT := Lib.hid (show fmtB l = ⟨#[]⟩ by rw [fmtB, if_neg (fun h => hv (pB_iff.1 h))])
    rw [← pB_no hv] at HC
    clear hv
    go_enter Tryd.func18, Tryd.ntmps18
    go_wp2_with fail
    refine HC.out.mono ?_
    rintro e w1 ⟨rfl, hb⟩
    have HB := Lib.hid hb
    clear hb
    go_wp2_with fail
    go_ret
    exact ⟨by rw [HT.out]; rfl, HB.out⟩
  have HT := Lib.hid (show fmtB l = B8 (bindsT l) by rw [fmtB, if_pos (pB_iff.2 hv)])
  rw [← pB_yes hv] at HC
  have h60 := hv.1
  have HV := Lib.hid hv
  clear hv
  go_enter Tryd.func18, Tryd.ntmps18
  go_wp2_with fail
  refine HC.out.mono ?_
  rintro e w1 ⟨rfl, hb⟩
  have HB := Lib.hid hb
  clear hb
  go_wp2_with fail
  go_loopg [3, 5, 12] l.length (fun kq v3 v5 v12 w' => ∃ (i : Nat) (acc : ByteArray), i ≤ l.length ∧ l.length - i ≤ kq ∧ v12 = .int .i64 i ∧ v3 = .string acc ∧ acc.size ≤ 8000 ∧ Aside0 (acc = B8 (bindsT (l.take i))) ∧ Aside0 (Below w.heap.size w w'))
  case atStart => exact ⟨0, _, Nat.zero_le _, by omega, rfl, rfl, by show (ByteArray.mk #[]).size ≤ 8000; have : (ByteArray.mk #[]).size = 0 := rfl; omega, ⟨rfl⟩, ⟨HB.out⟩⟩
  case round =>
    obtain ⟨i, acc, hi, hg, rfl, rfl, ha, HA, HW⟩ := hrel
    by_cases hlt : i < l.length
    · obtain ⟨ad, A1, c1, e, g0, g1, g2, hk⟩ := bd_at HR.out i hlt
      subst e
      replace g0 := ck0 HW.out g0
      replace g1 := ck0 HW.out g1
      replace g2 := ck0 HW.out g2
      have hok := bdsOk_mem HV.out hlt
      have hnx := bindsT_next hlt
      have hln := bindsT_len HV.out (i + 1) (by omega)
      obtain ⟨b, hbd⟩ : ∃ b, l[i] = b := ⟨_, rfl⟩
      rw [hbd] at g0 g1 g2 hk hok hnx
      clear hbd
      have e2 : (B8 (nmF b).txt).size ≤ 110 := by rw [B8_size, nmF_txt]; exact nameT_len hok.1 hok.2.1
      have e3 : (B8 (Lib.itoa b.f2)).size ≤ 3 := by rw [B8_size]; exact itoa_len _ (by have := hok.2.2.1; omega) hok.2.2.2
      have HE := Lib.hid (show acc ++ (B8 (nmF b).txt ++ ⟨#[32, 61, 32]⟩ ++ B8 (Lib.itoa b.f2) ++ ⟨#[10]⟩) = B8 (bindsT (l.take (i + 1))) by
        rw [HA.out, hnx, ← lnT_B8]; simp only [ByteArray.append_assoc])
      have HL := Lib.hid (show (bindsT (l.take (i + 1))).length ≤ 8000 by omega)
      have hbx := below_new wr (.cells #[.string b.f0, .slice A1 b.f1.length c1, .int .i64 b.f2] 60)
      have hkb := blk_new wr (.cells #[.string b.f0, .slice A1 b.f1.length c1, .int .i64 b.f2] 60)
      have HX := Lib.hid (And.intro (below_step HW.out hbx) hkb)
      have HK := Lib.hid (fun W (hb : Below w.heap.size w W) => nameForm_any b A1 c1 W (hk.below hb) (by have := hok.2.1.1; omega))
      have HI := Lib.hid (fun W (hb : Below w.heap.size w W) => itoa_any b.f2 W (by have := hok.2.2.1; omega) (by have := hok.2.2.2; omega) (HTB.out W hb))
      have HO := Lib.hid hok
      clear hk hok hnx hln hbx
      obtain ⟨p0, p1, p2⟩ := bd_cells hkb
      clear hkb
      rw [show (⟨(Lib.itoa b.f2).toArray⟩ : ByteArray) = B8 (Lib.itoa b.f2) from rfl] at HI
      generalize B8 (Lib.itoa b.f2) = D at e3 HE HI
      have HF := Lib.hid (fun A3 c3 A4 c4 W hin (hb : Below w.heap.size w W) => fText b HO.out A3 c3 A4 c4 W hin (HTB.out W hb))
      generalize B8 (nmF b).txt = T at e2 HE HF
      have f1 : (9223372036854775807 < T.size + 3) = False := eq_false (by omega)
      have f2 : (9223372036854775807 < T.size + 3 + D.size) = False := eq_false (by omega)
      have f3 : (9223372036854775807 < T.size + 3 + D.size + 1) = False := eq_false (by omega)
      have f4 : (9223372036854775807 < acc.size + (T.size + 3 + D.size + 1)) = False := eq_false (by omega)
      go_wp2_with fail
      clear g0 g1 g2
      go_region_held3 (fun W => W.cell? ⟨wr.heap.size, 0, none⟩ = some (.string b.f0) ∧ W.cell? ⟨wr.heap.size, 1, none⟩ = some (.slice A1 b.f1.length c1) ∧ W.cell? ⟨wr.heap.size, 2, none⟩ = some (.int .i64 b.f2)) (first | go_keep | exact keep3 (below_step (Below.refl _ _).drew hba) ⟨p0, p1, p2⟩ | exact keep3 (below_step (below_step (Below.refl _ _).drew hba) hbb) ⟨p0, p1, p2⟩ | exact keep3 (below_step (below_step (below_step (Below.refl _ _).drew hba) hbb) hbc) ⟨p0, p1, p2⟩)
        ((first
          | (go_at_call 42; refine (HK.out _ (below_step HX.out.1 (Below.refl _ _).drew)).mono ?_; rintro e wa ⟨E3, m3, E4, m4, rfl, hfi, hba⟩)
          | (go_at_call 37; refine (HF.out E3 m3 E4 m4 _ hfi (below_step HX.out.1 (below_step (Below.refl _ _).drew hba))).mono ?_; rintro e wb ⟨rfl, hbb⟩)
          | (go_at_call 43; refine (HI.out _ (below_step HX.out.1 (below_step (below_step (Below.refl _ _).drew hba) hbb))).mono ?_; rintro e wc ⟨rfl, hbc⟩)))
      have HB2 := Lib.hid (below_step HX.out.1 (below_step (below_step (below_step (Below.refl _ _).drew hba) hbb) hbc))
      clear hba hbb hbc hfi p0 p1 p2
      go_wp2_with fail
      go_roundg (l.length - (i + 1))
      case measure => omega
      case rel => exact ⟨i + 1, _, by omega, Nat.le_refl _, by go_num, rfl, by rw [HE.out, B8_size]; exact HL.out, ⟨HE.out⟩, ⟨HB2.out⟩⟩
    · obtain rfl : i = l.length := by omega
      have HE := Lib.hid (show acc = fmtB l by rw [HA.out, HT.out, List.take_length])
      go_wp2_with fail
      go_ret
      exact ⟨by rw [← HE.out]; rfl, HW.out⟩
end Go.Proofs.YteeepenncddnjaaDoor
end
section
namespace Go.Proofs.YteeepenncddnjaaDoor
open Go.RowKit Go.Proofs.YteeepenncddnjaaDoorW.PrintWords Go.Proofs.YteeepenncddnjaaDoorW.PrintLast Go.Proofs.YteeepenncddnjaaDoorW.PrintMore
set_option linter.unusedVariables false
set_option linter.unusedSimpArgs false
/-- Two forms are handed back. -/
def GetTwo (w : World) (x y : Fm) (e : Ending) (w' : World) : Prop := ∃ A3 c3 A4 c4 B3 d3 B4 d4, e = .returned (.tuple #[.agg #[.int .i64 x.f0, .string x.f1, .int .i64 x.f2, .slice A3 x.f3.length c3, .slice A4 x.f4.length c4], .agg #[.int .i64 y.f0, .string y.f1, .int .i64 y.f2, .slice B3 y.f3.length d3, .slice B4 y.f4.length d4]]) ∧ FmIn w' x A3 c3 A4 c4 ∧ FmIn w' y B3 d3 B4 d4 ∧ Below w.heap.size w w'
/-- The form of a name without scopes. -/
abbrev lnm (n : ByteArray) : Fm := ⟨1, n, 0, [], []⟩
theorem lnm_in (n : ByteArray) (w : World) : FmIn w (lnm n) none 0 none 0 := ⟨Nat.le_refl 0, Kd.C_nil kI w, Nat.le_refl 0, Kd.C_nil kF w⟩
theorem l1Name_any (n : ByteArray) (w : World) : Calls Tryd.prog 63 #[.string n] w (fun e w' => e = .returned (.agg #[.int .i64 1, .string n, .int .i64 0, .slice none 0 0, .slice none 0 0]) ∧ Below w.heap.size w w') := by
  have k0 := blk_new w (.cells #[.int .i64 1, .string n, .int .i64 0, .slice none 0 0, .slice none 0 0] 26)
  obtain ⟨q0, q1, q2, q3, q4⟩ := fm_cells k0
  have HB := Lib.hid (below_new w (.cells #[.int .i64 1, .string n, .int .i64 0, .slice none 0 0, .slice none 0 0] 26))
  clear k0
  go_enter Tryd.func63, Tryd.ntmps63
  go_wp2_with fail
  refine bodyPost_ret (v := .agg #[.int .i64 1, .string n, .int .i64 0, .slice none 0 0, .slice none 0 0]) (by simp [results, Tryd.results63, go_sem, q0, q1, q2, q3, q4]) rfl ?_
  exact ⟨rfl, HB.out⟩
end Go.Proofs.YteeepenncddnjaaDoor
end
section
namespace Go.Proofs.YteeepenncddnjaaDoor
open Go.RowKit Go.Proofs.YteeepenncddnjaaDoorW.PrintWords
set_option linter.unusedVariables false
set_option linter.unusedSimpArgs false
section
open Go.Proofs.YteeepenncddnjaaDoor.Q
theorem isName_pair {l : List Bd} {x : Fm} : pB (BdsOk l ∧ IsName x) = (pB (BdsOk l) && pB (IsName x)) := by
  by_cases h1 : BdsOk l
  · by_cases h2 : IsName x
    · rw [pB_iff.2 ⟨h1, h2⟩, pB_iff.2 h1, pB_iff.2 h2]; rfl
    · rw [← pB_no h2, ← pB_no (fun k : BdsOk l ∧ IsName x => h2 k.2), Bool.and_false]
  · rw [← pB_no h1, ← pB_no (fun k : BdsOk l ∧ IsName x => h1 k.1), Bool.false_and]
end
end Go.Proofs.YteeepenncddnjaaDoor
end
section
namespace Go.Proofs.YteeepenncddnjaaDoor
open Go.RowKit Go.Proofs.YteeepenncddnjaaDoorW.PrintWords Go.Proofs.YteeepenncddnjaaDoorW.PrintLast Go.Proofs.YteeepenncddnjaaDoorW.PrintMore
set_option linter.unusedVariables false
set_option linter.unusedSimpArgs false
def BdL (w : World) : List Bd → List Value → List Nat → Prop
  | [], inner, fp => inner = [] ∧ fp = []
  | b :: l, inner, fp => ∃ v1 rest fs, inner = [.string b.f0, v1, .int .i64 b.f2] ++ rest ∧ fp = obs v1 ++ fs ∧ w.ownsRow 0 3 1 v1 b.f1.length (encI b.f1) ∧ BdL w l rest fs
theorem BdL.len {w : World} : ∀ {l : List Bd} {inner : List Value} {fp : List Nat}, BdL w l inner fp → inner.length = l.length * 3
  | [], inner, fp, h => by rw [h.1]; rfl
  | b :: l, inner, fp, h => by
    obtain ⟨v1, rest, fs, rfl, rfl, _, hs⟩ := h
    have := BdL.len hs
    simp [this]; omega
theorem BdL.append {w : World} : ∀ {a b : List Bd} {ia ib : List Value} {fa fb : List Nat}, BdL w a ia fa → BdL w b ib fb → BdL w (a ++ b) (ia ++ ib) (fa ++ fb)
  | [], b, ia, ib, fa, fb, ha, hb => by obtain ⟨rfl, rfl⟩ := ha; exact hb
  | x :: a, b, ia, ib, fa, fb, ha, hb => by
    obtain ⟨v1, rest, fs, rfl, rfl, h1, hs⟩ := ha
    exact ⟨v1, rest ++ ib, fs ++ fb, by rw [List.append_assoc], by rw [List.append_assoc], h1, BdL.append hs hb⟩
theorem BdL.one {w : World} {b : Bd} {v1 : Value} (h : w.ownsRow 0 3 1 v1 b.f1.length (encI b.f1)) : BdL w [b] [.string b.f0, v1, .int .i64 b.f2] (obs v1) :=
  ⟨v1, [], [], rfl, by simp, h, rfl, rfl⟩
theorem BdL.move {w w1 : World} : ∀ {l : List Bd} {inner : List Value} {fp : List Nat}, BdL w l inner fp → (∀ b, b ∈ fp → w1.heap[b]? = w.heap[b]?) → BdL w1 l inner fp
  | [], inner, fp, h, _ => h
  | b :: l, inner, fp, h, hm => by
    obtain ⟨v1, rest, fs, rfl, rfl, h1, hs⟩ := h
    exact ⟨v1, rest, fs, rfl, rfl, own_move h1 (fun k hk => hm k (List.mem_append_left _ (obs_mem.2 hk))), BdL.move hs (fun k hk => hm k (List.mem_append_right _ hk))⟩
theorem BdL.lt {w : World} : ∀ {l : List Bd} {inner : List Value} {fp : List Nat}, BdL w l inner fp → ∀ b, b ∈ fp → b < w.heap.size
  | [], inner, fp, h, b, hb => by rw [h.2] at hb; cases hb
  | x :: l, inner, fp, h, b, hb => by
    obtain ⟨v1, rest, fs, rfl, rfl, h1, hs⟩ := h
    rcases List.mem_append.1 hb with q | q
    · exact own_lt h1 b (obs_mem.1 q)
    · exact BdL.lt hs b q
theorem BdL.later {w w1 : World} {l : List Bd} {inner : List Value} {fp : List Nat} (h : BdL w l inner fp) (hb : Below w.heap.size w w1) : BdL w1 l inner fp := h.move (fun b hb2 => hb.block b (h.lt b hb2))
abbrev set3 (w : World) (g o : Nat) (b0 b1 b2 : Value) : World := ((w.setCell ⟨g, o, none⟩ b0).setCell ⟨g, o + 1, none⟩ b1).setCell ⟨g, o + 2, none⟩ b2
theorem row_put3 {w : World} {e g n cap i : Nat} {inner rest : List Value} {a0 a1 a2 : Value} (h : w.ownsRow 0 e 3 (.slice (some ⟨g, 0, none⟩) n cap) n (inner ++ ([a0, a1, a2] ++ rest))) (hl : inner.length = i * 3) :
    (w.cell? ⟨g, i * 3, none⟩ = some a0 ∧ w.cell? ⟨g, i * 3 + 1, none⟩ = some a1 ∧ w.cell? ⟨g, i * 3 + 2, none⟩ = some a2) ∧
    (∀ j, w.frozen? ⟨g, j, none⟩ = false) ∧
    ∀ b0 b1 b2, (set3 w g (i * 3) b0 b1 b2).ownsRow 0 e 3 (.slice (some ⟨g, 0, none⟩) n cap) n (inner ++ ([b0, b1, b2] ++ rest)) := by
  have hn : inner.length + 3 + rest.length = n * 3 := by have := h.1; simp at this; omega
  have hc : ∀ j, j < 3 → w.cell? ⟨g, i * 3 + j, none⟩ = ([a0, a1, a2] ++ rest)[j]? := by
    intro j hj
    rw [World.ownsRow.cellAt h _ (by omega), List.getElem?_append_right (by omega)]
    congr 1
    omega
  refine ⟨⟨hc 0 (by omega), hc 1 (by omega), hc 2 (by omega)⟩, fun j => World.ownsRow.frozenAt h j, fun b0 b1 b2 => ?_⟩
  have s0 := (World.ownsRow.stored h (i * 3) b0).1
  have s1 := (World.ownsRow.stored s0 (i * 3 + 1) b1).1
  have s2 := (World.ownsRow.stored s1 (i * 3 + 2) b2).1
  have e : ((((inner ++ ([a0, a1, a2] ++ rest)).set (i * 3) b0).set (i * 3 + 1) b1).set (i * 3 + 2) b2) = inner ++ ([b0, b1, b2] ++ rest) := by
    rw [← hl]
    simp [List.set_append]
  rw [e] at s2
  exact s2
/-- The list at place i: its row, and how it is put together again. -/
theorem BdL.at_ {w : World} : ∀ {m : List Bd} {inner : List Value} {fp : List Nat}, BdL w m inner fp → ∀ (i : Nat) (h : i < m.length), ∃ ia v1 ib fa fb, inner = ia ++ ([.string m[i].f0, v1, .int .i64 m[i].f2] ++ ib) ∧ fp = fa ++ (obs v1 ++ fb) ∧ ia.length = i * 3 ∧ w.ownsRow 0 3 1 v1 m[i].f1.length (encI m[i].f1) ∧
    ∀ (w1 : World) (b : Bd), (∀ k, k ∈ fa ++ fb → w1.heap[k]? = w.heap[k]?) → w1.ownsRow 0 3 1 v1 b.f1.length (encI b.f1) → BdL w1 (m.set i b) (ia ++ ([.string b.f0, v1, .int .i64 b.f2] ++ ib)) fp
  | [], inner, fp, h, i, hi => absurd hi (Nat.not_lt_zero _)
  | x :: m, inner, fp, h, 0, hi => by
    obtain ⟨v1, rest, fs, rfl, rfl, h1, hs⟩ := h
    refine ⟨[], v1, rest, [], fs, rfl, rfl, rfl, h1, fun w1 b hm hb => ?_⟩
    exact ⟨v1, rest, fs, rfl, rfl, hb, hs.move (fun k hk => hm k (by simpa using hk))⟩
  | x :: m, inner, fp, h, i + 1, hi => by
    obtain ⟨v1, rest, fs, rfl, rfl, h1, hs⟩ := h
    obtain ⟨ia, v2, ib, fa, fb, rfl, rfl, hl, h2, hput⟩ := BdL.at_ hs i (by simpa using hi)
    refine ⟨[.string x.f0, v1, .int .i64 x.f2] ++ ia, v2, ib, obs v1 ++ fa, fb, by simp, by simp, by simp [hl]; omega, by simpa using h2, fun w1 b hm hb => ?_⟩
    refine ⟨v1, ia ++ ([.string b.f0, v2, .int .i64 b.f2] ++ ib), fa ++ (obs v2 ++ fb), by simp, by simp, own_move h1 (fun k hk => hm k (by simp [obs_mem, hk])), ?_⟩
    exact hput w1 b (fun k hk => hm k (by rcases List.mem_append.1 hk with q | q <;> simp [q])) hb
theorem row_at3 {w : World} {e g n cap i : Nat} {inner rest : List Value} {a0 a1 a2 : Value} (h : w.ownsRow 0 e 3 (.slice (some ⟨g, 0, none⟩) n cap) n (inner ++ ([a0, a1, a2] ++ rest))) (hl : inner.length = i * 3) :
    (∀ b, (w.setCell ⟨g, i * 3, none⟩ b).ownsRow 0 e 3 (.slice (some ⟨g, 0, none⟩) n cap) n (inner ++ ([b, a1, a2] ++ rest))) ∧ (∀ b, (w.setCell ⟨g, i * 3 + 2, none⟩ b).ownsRow 0 e 3 (.slice (some ⟨g, 0, none⟩) n cap) n (inner ++ ([a0, a1, b] ++ rest))) := by
  refine ⟨fun b => ?_, fun b => ?_⟩
  · have s0 := (World.ownsRow.stored h (i * 3) b).1
    have e : (inner ++ ([a0, a1, a2] ++ rest)).set (i * 3) b = inner ++ ([b, a1, a2] ++ rest) := by rw [← hl]; simp [List.set_append]
    rwa [e] at s0
  · have s0 := (World.ownsRow.stored h (i * 3 + 2) b).1
    have e : (inner ++ ([a0, a1, a2] ++ rest)).set (i * 3 + 2) b = inner ++ ([a0, a1, b] ++ rest) := by rw [← hl]; simp [List.set_append]
    rwa [e] at s0
theorem BdL.at2 {w : World} : ∀ {m : List Bd} {inner : List Value} {fp : List Nat}, BdL w m inner fp → ∀ (i : Nat) (h : i < m.length), ∃ ia v1 ib fa fb, inner = ia ++ ([.string m[i].f0, v1, .int .i64 m[i].f2] ++ ib) ∧ fp = fa ++ (obs v1 ++ fb) ∧ ia.length = i * 3 ∧ w.ownsRow 0 3 1 v1 m[i].f1.length (encI m[i].f1) ∧
    ∀ (w1 : World) (b : Bd) (u : Value), (∀ k, k ∈ fa ++ fb → w1.heap[k]? = w.heap[k]?) → w1.ownsRow 0 3 1 u b.f1.length (encI b.f1) → BdL w1 (m.set i b) (ia ++ ([.string b.f0, u, .int .i64 b.f2] ++ ib)) (fa ++ (obs u ++ fb))
  | [], inner, fp, h, i, hi => absurd hi (Nat.not_lt_zero _)
  | x :: m, inner, fp, h, 0, hi => by
    obtain ⟨v1, rest, fs, rfl, rfl, h1, hs⟩ := h
    refine ⟨[], v1, rest, [], fs, rfl, rfl, rfl, h1, fun w1 b u hm hb => ?_⟩
    exact ⟨u, rest, fs, rfl, rfl, hb, hs.move (fun k hk => hm k (by simpa using hk))⟩
  | x :: m, inner, fp, h, i + 1, hi => by
    obtain ⟨v1, rest, fs, rfl, rfl, h1, hs⟩ := h
    obtain ⟨ia, v2, ib, fa, fb, rfl, rfl, hl, h2, hput⟩ := BdL.at2 hs i (by simpa using hi)
    refine ⟨[.string x.f0, v1, .int .i64 x.f2] ++ ia, v2, ib, obs v1 ++ fa, fb, by simp, by simp, by simp [hl]; omega, by simpa using h2, fun w1 b u hm hb => ?_⟩
    refine ⟨v1, ia ++ ([.string b.f0, u, .int .i64 b.f2] ++ ib), fa ++ (obs u ++ fb), by simp, by simp, own_move h1 (fun k hk => hm k (by simp [obs_mem, hk])), ?_⟩
    exact hput w1 b u (fun k hk => hm k (by rcases List.mem_append.1 hk with q | q <;> simp [q])) hb
theorem row_at3m {w : World} {e g n cap i : Nat} {inner rest : List Value} {a0 a1 a2 : Value} (h : w.ownsRow 0 e 3 (.slice (some ⟨g, 0, none⟩) n cap) n (inner ++ ([a0, a1, a2] ++ rest))) (hl : inner.length = i * 3) :
    ∀ b, (w.setCell ⟨g, i * 3 + 1, none⟩ b).ownsRow 0 e 3 (.slice (some ⟨g, 0, none⟩) n cap) n (inner ++ ([a0, b, a2] ++ rest)) := by
  intro b
  have s0 := (World.ownsRow.stored h (i * 3 + 1) b).1
  have e : (inner ++ ([a0, a1, a2] ++ rest)).set (i * 3 + 1) b = inner ++ ([a0, b, a2] ++ rest) := by rw [← hl]; simp [List.set_append]
  rwa [e] at s0
/-- A list of bindings in new memory, from block B on. -/
def NewB (B : Nat) (w' : World) (l : List Bd) (v : Value) : Prop := ∃ inner fp, w'.ownsRow 0 60 3 v l.length inner ∧ BdL w' l inner fp ∧ (obs v ++ fp).Nodup ∧ ∀ b, b ∈ obs v ++ fp → B ≤ b
theorem NewB.lt {B : Nat} {w : World} {l : List Bd} {v : Value} {inner : List Value} {fp : List Nat} (ho : w.ownsRow 0 60 3 v l.length inner) (ht : BdL w l inner fp) : ∀ b, b ∈ obs v ++ fp → b < w.heap.size := fun b hb => by
  rcases List.mem_append.1 hb with q | q
  · exact own_lt ho b (obs_mem.1 q)
  · exact ht.lt b q
theorem NewB.move {B : Nat} {w W : World} {l : List Bd} {v : Value} (h : NewB B w l v) (hm : ∀ b, B ≤ b → b < w.heap.size → W.heap[b]? = w.heap[b]?) : NewB B W l v := by
  obtain ⟨inner, fp, ho, ht, hn, hg⟩ := h
  have hlt := NewB.lt (B := B) ho ht
  exact ⟨inner, fp, own_move ho (fun k hk => hm k (hg k (List.mem_append_left _ (obs_mem.2 hk))) (hlt k (List.mem_append_left _ (obs_mem.2 hk)))), ht.move (fun k hk => hm k (hg k (List.mem_append_right _ hk)) (hlt k (List.mem_append_right _ hk))), hn, hg⟩
/-- The list's binding i: its cells; what the stores into it leave. -/
structure BdAtI (B : Nat) (w : World) (l : List Bd) (v : Value) (i : Nat) (x : Bd) (gr : Nat) (C : Option Addr) (d : Nat) : Prop where
  ge : B ≤ gr
  lt : gr < w.heap.size
  c0 : w.cell? ⟨gr, i * 3, none⟩ = some (.string x.f0)
  c1 : w.cell? ⟨gr, i * 3 + 1, none⟩ = some (.slice C x.f1.length d)
  c2 : w.cell? ⟨gr, i * 3 + 2, none⟩ = some (.int .i64 x.f2)
  fz : ∀ j, w.frozen? ⟨gr, j, none⟩ = false
  row : w.ownsRow B 3 1 (.slice C x.f1.length d) x.f1.length (encI x.f1)
  ne : ∀ b, (Value.slice C x.f1.length d).ownBlock = some b → b ≠ gr
  id_ : ∀ n, NewB B (w.setCell ⟨gr, i * 3 + 2, none⟩ (.int .i64 n)) (l.set i ⟨x.f0, x.f1, n⟩) v
  sc_ : ∀ (w1 : World) (u : Value) (sc : List Int), w.grownBy w1 (Value.slice C x.f1.length d).ownBlock → w1.ownsRow 0 3 1 u sc.length (encI sc) → (u.ownBlock = (Value.slice C x.f1.length d).ownBlock ∨ ∃ b, u.ownBlock = some b ∧ w.heap.size ≤ b) → w1.cell? ⟨gr, i * 3 + 1, none⟩ = some (.slice C x.f1.length d) ∧ w1.frozen? ⟨gr, i * 3 + 1, none⟩ = false ∧ NewB B (w1.setCell ⟨gr, i * 3 + 1, none⟩ u) (l.set i ⟨x.f0, sc, x.f2⟩) v
theorem NewB.atI {B : Nat} {w : World} {l : List Bd} {v : Value} (h : NewB B w l v) (hB : B ≤ w.heap.size) (i : Nat) (hi : i < l.length) : ∃ gr cap C d, v = .slice (some ⟨gr, 0, none⟩) l.length cap ∧ BdAtI B w l v i l[i] gr C d := by
  obtain ⟨inner, fp, ho, ht, hn, hge⟩ := h
  have hlt := NewB.lt (B := B) ho ht
  obtain ⟨gr, cap, rfl, hg0, hg1⟩ := ho.form (by omega)
  obtain ⟨ia, v1, ib, fa, fb, rfl, rfl, hil, h1, hput⟩ := ht.at2 i hi
  obtain ⟨C, d, rfl, hcap, _⟩ := own_C h1
  generalize l[i] = x at h1 ho hput hcap hge hn hlt
  obtain ⟨⟨z0, z1, z2⟩, hfz, _⟩ := row_put3 ho hil
  have hgm : gr ∈ obs (Value.slice (some ⟨gr, 0, none⟩) l.length cap) := by simp [obs, Value.ownBlock]
  obtain ⟨_, nf, nd⟩ := List.nodup_append.1 hn
  obtain ⟨na, nvb, nd2⟩ := List.nodup_append.1 nf
  obtain ⟨_, nb, nd3⟩ := List.nodup_append.1 nvb
  have hgv : ∀ b, b ∈ obs (Value.slice C x.f1.length d) → b ≠ gr := fun b hb he => nd gr hgm b (by simp [hb]) he.symm
  have hga : ∀ b, b ∈ fa ++ fb → b ≠ gr := fun b hb he => nd gr hgm b (by rcases List.mem_append.1 hb with q | q <;> simp [q]) he.symm
  have hva : ∀ b, b ∈ fa ++ fb → b ∉ obs (Value.slice C x.f1.length d) := fun b hb hv => by
    rcases List.mem_append.1 hb with q | q
    · exact nd2 b q b (List.mem_append_left _ hv) rfl
    · exact nd3 b hv b q rfl
  have hgo : ∀ b, (Value.slice (some ⟨gr, 0, none⟩) l.length cap).ownBlock = some b → b = gr := fun b hb => by
    have : gr = b := by simpa [Value.ownBlock] using hb
    exact this.symm
  refine ⟨gr, cap, C, d, rfl, hge gr (List.mem_append_left _ hgm), hg1, z0, z1, z2, hfz, ?_, fun b hb => hgv b (obs_mem.2 hb), fun n => ?_, fun w1 u sc hg hu hat => ?_⟩
  · refine ⟨h1.1, ?_⟩
    rcases h1.2 with q | ⟨g5, cap5, cur5, q, hq, r⟩
    · exact .inl q
    · exact .inr ⟨g5, cap5, cur5, q, hge g5 (by rw [q]; simp [obs, Value.ownBlock]), r⟩
  · have hfar : ∀ b, b ≠ gr → (w.setCell ⟨gr, i * 3 + 2, none⟩ (.int .i64 n)).heap[b]? = w.heap[b]? := fun b hb => Below.heap_setCell _ _ _ _ (by exact hb)
    exact ⟨_, _, by rw [List.length_set]; exact (row_at3 ho hil).2 (.int .i64 n), hput _ ⟨x.f0, x.f1, n⟩ _ (fun b hb => hfar b (hga b hb)) (own_move h1 (fun b hb => hfar b (hgv b (obs_mem.2 hb)))), hn, hge⟩
  · have hrow : ∀ b, b ∉ obs (Value.slice C x.f1.length d) → some b ≠ (Value.slice C x.f1.length d).ownBlock := fun b hb he => hb (obs_mem.2 he.symm)
    have ho1 := own_move (w1 := w1) ho (fun b hb => by rw [hgo b hb]; exact hg.block gr hg1 (hrow gr (fun q => hgv gr q rfl)))
    have huv : ∀ b, u.ownBlock = some b → b ∈ obs (Value.slice C x.f1.length d) ∨ w.heap.size ≤ b := fun b hb => by
      rcases hat with q | ⟨c, q, hc⟩
      · exact .inl (obs_mem.2 (q ▸ hb))
      · rw [q] at hb; cases hb; exact .inr hc
    have hug : ∀ b, b ∈ obs u → b ≠ gr := fun b hb he => by
      rcases huv b (obs_mem.1 hb) with q | q
      · exact hgv b q he
      · omega
    have hua : ∀ b, b ∈ fa ++ fb → b ∉ obs u := fun b hb hv => by
      have := hlt b (by rcases List.mem_append.1 hb with q | q <;> simp [q])
      rcases huv b (obs_mem.1 hv) with q | q
      · exact hva b hb q
      · omega
    have hfar : ∀ b, b ≠ gr → (w1.setCell ⟨gr, i * 3 + 1, none⟩ u).heap[b]? = w1.heap[b]? := fun b hb => Below.heap_setCell _ _ _ _ (by exact hb)
    obtain ⟨⟨_, q1, _⟩, qf, _⟩ := row_put3 ho1 hil
    refine ⟨q1, qf _, ?_⟩
    refine ⟨_, _, by rw [List.length_set]; exact row_at3m ho1 hil u, hput _ ⟨x.f0, sc, x.f2⟩ u (fun b hb => (hfar b (hga b hb)).trans (hg.block b (hlt b (by rcases List.mem_append.1 hb with q | q <;> simp [q])) (hrow b (hva b hb)))) (own_move hu (fun b hb => hfar b (hug b (obs_mem.2 hb)))), ?_, ?_⟩
    · rw [List.nodup_append]
      refine ⟨by simp [obs, Value.ownBlock], ?_, fun a ha b hb he => ?_⟩
      · rw [List.nodup_append]
        refine ⟨na, ?_, fun a ha b hb he => ?_⟩
        · rw [List.nodup_append]
          refine ⟨by unfold obs; cases u.ownBlock <;> simp, nb, fun a ha b hb he => ?_⟩
          subst he; exact hua a (List.mem_append_right _ hb) ha
        · subst he
          rcases List.mem_append.1 hb with q | q
          · exact hua a (List.mem_append_left _ ha) q
          · exact nd2 a ha a (List.mem_append_right _ q) rfl
      · subst he
        have hag := hgo a (obs_mem.1 ha)
        rcases List.mem_append.1 hb with q | q
        · exact hga a (List.mem_append_left _ q) hag
        · rcases List.mem_append.1 q with q | q
          · exact hug a q hag
          · exact hga a (List.mem_append_right _ q) hag
    · intro b hb
      rcases List.mem_append.1 hb with q | q
      · exact hge b (List.mem_append_left _ q)
      · rcases List.mem_append.1 q with q | q
        · exact hge b (by simp [q])
        · rcases List.mem_append.1 q with q | q
          · rcases huv b (obs_mem.1 q) with r | r
            · exact hge b (by simp [r])
            · omega
          · exact hge b (by simp [q])
/-- The same, where the cells are known. -/
theorem NewB.atC {B : Nat} {w : World} {l : List Bd} {gr n cap : Nat} (h : NewB B w l (.slice (some ⟨gr, 0, none⟩) n cap)) (hB : B ≤ w.heap.size) (i : Nat) (hi : i < l.length) {x : Bd} (hx : l[i] = x) {C : Option Addr} {d : Nat} (hc : w.cell? ⟨gr, i * 3 + 1, none⟩ = some (.slice C x.f1.length d)) : BdAtI B w l (.slice (some ⟨gr, 0, none⟩) n cap) i x gr C d := by
  obtain ⟨gr', cap', C', d', e, hat⟩ := h.atI hB i hi
  injection e with a1 a2 a3
  injection a1 with a1
  injection a1 with a1
  subst a1 a2 a3 hx
  have h1 := hat.c1.symm.trans hc
  injection h1 with h1
  injection h1 with b1 b2 b3
  subst b1 b3
  exact hat
end Go.Proofs.YteeepenncddnjaaDoor
end
section
namespace Go.Proofs.YteeepenncddnjaaDoor
open Go.RowKit Go.Proofs.YteeepenncddnjaaDoorW.PrintWords Go.Proofs.YteeepenncddnjaaDoorW.PrintLast Go.Proofs.YteeepenncddnjaaDoorW.PrintMore
set_option linter.unusedVariables false
set_option linter.unusedSimpArgs false
section
open Go.Proofs.YteeepenncddnjaaDoor.Q
theorem f3_tot (x : Fm) : x.f3.length ≤ x.tot := by rw [Fm.tot_eq]; omega
theorem f1_tot (x : Fm) : x.f1.size ≤ x.tot := by rw [Fm.tot_eq]; omega
theorem smB_snoc {l : List Bd} (h : SmB l) (h1 : l.length ≤ 60) {b : Bd} (hb : b.f0.size ≤ 2000000 ∧ b.f1.length ≤ 2000000) : SmB (l ++ [b]) :=
  ⟨by simp; omega, fun c hc => by
    rcases List.mem_append.1 hc with h2 | h2
    · exact h.2 c h2
    · rw [List.mem_singleton.1 h2]; exact hb⟩
theorem ev_l3Copy {l : List Bd} (hl : SmB l) : Ev (fun k => spec_l3Copy.f k l) l := by
  have h0 := hl.1
  simp only [spec_l3Copy.f]
  obtain ⟨r, hp, hr⟩ := ev_loop (L := fun k (s : Int × List Bd) => spec_l3Copy.l0 k l s.2 s.1) (fun i s => s = ((i : Int), l.take i)) l.length (· = l) (by
    rintro i s hi rfl
    refine ⟨((i + 1 : Nat), l.take (i + 1)), rfl, fun r hr => ?_⟩
    have h2 := (hl.2 _ (List.getElem_mem hi)).2
    refine Ev.step (fun k => by rw [spec_l3Copy.l0]) ?_
    refine Ev.pos (by simpa using hi) ?_
    refine Ev.pos (by simp) ?_
    simp only
    rw [rdB hi]
    refine Ev.bind (g := fun _ => _) (Ev.some rfl) ?_
    refine Ev.pos (by simp; omega) ?_
    refine Ev.pos (by simp; omega) ?_
    rw [wr1 _ (by omega), List.nil_append, show (⟨l[i].f0, l[i].f1, l[i].f2⟩ : Bd) = l[i] from rfl, ← List.take_succ_eq_append_getElem hi]
    exact hr) (by
    rintro s rfl
    refine ⟨l, rfl, ?_⟩
    refine Ev.step (fun k => by rw [spec_l3Copy.l0]) ?_
    refine Ev.neg (by simp) ?_
    exact Ev.some (by simp)) (0, []) (by simp)
  subst hp
  exact hr
theorem ev_specAddBind {l : List Bd} (hl : SmB l) {x : Fm} (hx : x.tot ≤ 1048576) (id : Int) : Ev (fun k => spec_AddBind.f k l x.f0 x.f1 x.f2 x.f3 x.f4 id) (addBindR l x id) := by
  have h3 := f3_tot x
  have h1 := f1_tot x
  simp only [spec_AddBind.f]
  refine Ev.bind (ev_bindsValid hl) ?_
  unfold addBindR
  rw [isName_pair]
  rcases hv : pB (BdsOk l) with _ | _
  · refine Ev.neg (by simp) (Ev.step (fun k => by rw [spec_AddBind.j0]) ?_)
    exact Ev.pos rfl (Ev.now _)
  · have h60 := (bdsOk_iff.1 (pB_iff.1 hv)).1
    refine Ev.pos rfl (Ev.bind (g := fun _ => _) (Ev.some (ev_l3Is hx)) ?_)
    rcases pB (IsName x) with _ | _
    · refine Ev.step (fun k => by rw [spec_AddBind.j0]) ?_
      exact Ev.pos rfl (Ev.now _)
    · refine Ev.step (fun k => by rw [spec_AddBind.j0]) ?_
      refine Ev.neg (by simp) (Ev.bind (ev_l3Copy hl) (Ev.bind (g := fun _ => _) (Ev.some rfl) ?_))
      refine Ev.pos (by simp; omega) (Ev.pos (by omega) (Ev.bind (g := fun _ => _) (Ev.some rfl) ?_))
      rw [List.nil_append]
      refine Ev.bind (ev_bindsValid (smB_snoc hl h60 ⟨by show x.f1.size ≤ _; omega, by show x.f3.length ≤ _; omega⟩)) ?_
      rw [Bool.true_and, if_pos rfl]
      by_cases hb : pB (BdsOk (l ++ [⟨x.f1, x.f3, id⟩])) = true
      · refine Ev.pos hb ?_; rw [if_pos hb]; exact Ev.now _
      · refine Ev.neg hb ?_; rw [if_neg hb]; exact Ev.now _
end
/-- Out of the print's form of a row of one's own whose elements lie apart. -/
theorem bdl_ofS {w : World} {base : Nat} {ok : Nat → Prop} {f : Nat → Nat} : ∀ (l : List Bd) (j0 : Nat) (inner : List Value), inner.length = l.length * 3 → (∀ (j : Nat) (p : Bd × Nat), (l.zipIdx j0)[j]? = some p → (Kd.tag f kB).M w base ok p ((inner.drop (j * 3)).take 3)) → ∃ fp, BdL w l inner fp ∧ fp.Nodup ∧ ∀ b, b ∈ fp → base ≤ b ∧ ok b ∧ j0 ≤ f b
  | [], j0, inner, hl, _ => ⟨[], ⟨List.eq_nil_of_length_eq_zero (by simpa using hl), rfl⟩, List.nodup_nil, by simp⟩
  | b :: l, j0, inner, hl, h => by
    have h0 := h 0 (b, j0) (by simp [List.zipIdx_cons])
    obtain ⟨v1, e1, hR⟩ := Q.k60_openM (show kB.M w base (fun k => ok k ∧ f k = j0) b _ from h0)
    have ho := Kd.own_of_R hR
    obtain ⟨fp, a1, a2, a3⟩ := bdl_ofS l (j0 + 1) (inner.drop 3) (by simp [hl]; omega) (fun j p hj => by
      have := h (j + 1) p (by simpa [List.zipIdx_cons] using hj)
      rwa [show (j + 1) * 3 = 3 + j * 3 from by omega, ← List.drop_drop] at this)
    have hv : ∀ k, v1.ownBlock = some k → base ≤ k ∧ ok k ∧ f k = j0 := fun k hk => ⟨Kd.R_base hR k hk, (hR.1 k hk).1, (hR.1 k hk).2⟩
    refine ⟨obs v1 ++ fp, ⟨v1, inner.drop 3, fp, ?_, rfl, own_weaken ho (Nat.zero_le _), a1⟩, ?_, fun k hk => ?_⟩
    · have e3 : inner.take 3 = [.string b.f0, v1, .int .i64 b.f2] := by simpa using e1
      rw [← e3, List.take_append_drop]
    · rw [List.nodup_append]
      refine ⟨by unfold obs; cases v1.ownBlock <;> simp, a2, fun x hx y hy he => ?_⟩
      have h1 := (hv x (obs_mem.1 hx)).2.2
      have h2 := (a3 y hy).2.2
      subst he
      omega
    · rcases List.mem_append.1 hk with q | q
      · have := hv k (obs_mem.1 q)
        exact ⟨this.1, this.2.1, by omega⟩
      · have := a3 k q
        exact ⟨this.1, this.2.1, by omega⟩
theorem NewB.ofS {w : World} {base : Nat} {v : Value} {l : List Bd} (h : Kd.S kB 60 w base (fun _ => True) v l) : NewB base w l v := by
  obtain ⟨f, h0, inner, ho, hr⟩ := h
  rw [List.length_zipIdx] at ho
  have hl : inner.length = l.length * 3 := by have := hr.1; rw [List.length_zipIdx] at this; exact this
  obtain ⟨fp, a1, a2, a3⟩ := bdl_ofS l 0 inner hl (fun j p hj => hr.2 j p hj)
  refine ⟨inner, fp, own_weaken ho (Nat.zero_le _), a1, ?_, fun b hb => ?_⟩
  · rw [List.nodup_append]
    refine ⟨by unfold obs; cases v.ownBlock <;> simp, a2, fun x hx y hy he => ?_⟩
    subst he
    exact (a3 x hy).2.1.2 (obs_mem.1 hx).symm
  · rcases List.mem_append.1 hb with q | q
    · exact (by have := ho; rcases this with ⟨_, ⟨rfl, _⟩ | ⟨g, cap, cur, rfl, hg, _⟩⟩; (exact absurd (obs_mem.1 q) (by simp [Value.ownBlock])); (have h9 : g = b := by simpa [Value.ownBlock] using obs_mem.1 q); omega)
    · exact (a3 b q).1
theorem specAddB_any (l : List Bd) (A : Option Addr) (c : Nat) (x : Fm) (A3 : Option Addr) (c3 : Nat) (A4 : Option Addr) (c4 : Nat) (id : Int) (w : World) (hr : kB.C w A l.length l) (hc : l.length ≤ c) (hx : FmIn w x A3 c3 A4 c4) (hs : SmB l) (ht : x.tot ≤ 1048576) :
    Calls Tryd.prog 79 #[.slice A l.length c, .agg #[.int .i64 x.f0, .string x.f1, .int .i64 x.f2, .slice A3 x.f3.length c3, .slice A4 x.f4.length c4], .int .i64 id] w (fun e w' => ∃ v, e = .returned (.tuple #[v, .bool (addBindR l x id).2]) ∧ NewB w.heap.size w' (addBindR l x id).1 v ∧ Below w.heap.size w w') := by
  obtain ⟨k, hk⟩ := (ev_specAddBind hs ht id).rounds
  refine (Q.spec_AddBind.calls k A c l x.f0 x.f1 x.f2 A3 c3 x.f3 A4 c4 x.f4 id _ _ w hr hc hx.g3 hx.l3 hx.g4 hx.l4 hk).mono ?_
  rintro e w' ⟨v, rfl, hS, hb⟩
  exact ⟨v, rfl, NewB.ofS hS, hb⟩
end Go.Proofs.YteeepenncddnjaaDoor
end
section
namespace Go.Proofs.YteeepenncddnjaaDoor
open Go.RowKit Go.Proofs.YteeepenncddnjaaDoorW.PrintWords Go.Proofs.YteeepenncddnjaaDoorW.PrintLast Go.Proofs.YteeepenncddnjaaDoorW.PrintMore
set_option linter.unusedVariables false
set_option linter.unusedSimpArgs false
/-- The list reads in w, and in every world in which the blocks from lo on stand as_ in w. -/
structure BdS (lo : Nat) (w : World) (l : List Bd) (A : Option Addr) (c : Nat) : Prop where mk ::
  le : l.length ≤ c
  out : ∀ W : World, (∀ b, lo ≤ b → b < w.heap.size → W.heap[b]? = w.heap[b]?) → kB.C W A l.length l
theorem BdS.now {lo : Nat} {w : World} {l : List Bd} {A : Option Addr} {c : Nat} (h : BdS lo w l A c) : kB.C w A l.length l := h.out w (fun _ _ _ => rfl)
theorem BdS.move {lo : Nat} {w W : World} {l : List Bd} {A : Option Addr} {c : Nat} (h : BdS lo w l A c) (hs : w.heap.size ≤ W.heap.size) (hm : ∀ b, lo ≤ b → b < w.heap.size → W.heap[b]? = w.heap[b]?) : BdS lo W l A c :=
  ⟨h.le, fun W' h' => h.out W' (fun b h1 h2 => (h' b h1 (Nat.lt_of_lt_of_le h2 hs)).trans (hm b h1 h2))⟩
theorem BdS.later {lo : Nat} {w W : World} {l : List Bd} {A : Option Addr} {c : Nat} (h : BdS lo w l A c) (hb : Below w.heap.size w W) : BdS lo W l A c := h.move hb.size (fun b _ hlt => hb.block b hlt)
theorem BdS.keep {lo g : Nat} {w W : World} {l : List Bd} {A : Option Addr} {c : Nat} (h : BdS lo w l A c) (hk : KeepBut w W g none) (hg : g < lo) : BdS lo W l A c := h.move hk.1 (fun b h1 hlt => hk.2 b hlt (by omega) (by simp))
theorem BdS.low {lo lo' : Nat} {w : World} {l : List Bd} {A : Option Addr} {c : Nat} (h : BdS lo w l A c) (hl : lo' ≤ lo) : BdS lo' w l A c := ⟨h.le, fun W hW => h.out W (fun b h1 h2 => hW b (Nat.le_trans hl h1) h2)⟩
theorem BdL.repsC {w : World} : ∀ (l : List Bd) {inner : List Value} {fp : List Nat}, BdL w l inner fp → Reps (kB.K w) 3 l inner := by
  intro l
  induction l with
  | nil => intro inner fp h; obtain ⟨rfl, rfl⟩ := h; exact Reps.none _ _
  | cons b l ih =>
    intro inner fp h
    obtain ⟨v1, rest, fs, rfl, rfl, h1, hs⟩ := h
    obtain ⟨A, c, rfl, hc, hr⟩ := own_C h1
    have hr2 := ih hs
    refine ⟨by rw [List.length_append, hr2.1]; simp; omega, fun j p hj => ?_⟩
    cases j with
    | zero =>
      have : b = p := by simpa using hj
      subst this
      simpa using Q.k60_mk w b hc hr
    | succ j =>
      have h2 := hr2.2 j p (by simpa using hj)
      rw [show (j + 1) * 3 = 3 + j * 3 from by omega, ← List.drop_drop]
      simpa using h2
theorem BdL.reads {w : World} {l : List Bd} {inner : List Value} {fp : List Nat} {v : Value} (h : BdL w l inner fp) (h4 : w.ownsRow 0 60 3 v l.length inner) : ∃ A c, v = .slice A l.length c ∧ l.length ≤ c ∧ kB.C w A l.length l := by
  obtain ⟨A4, c4, e, r4⟩ := own_reads_row (R := kB.K w) h4 (h.repsC l) rfl
  subst e
  exact ⟨A4, c4, rfl, own_le h4, r4⟩
theorem BdS.of {B : Nat} {w : World} {l : List Bd} {v : Value} {inner : List Value} {fp : List Nat} (ho : w.ownsRow 0 60 3 v l.length inner) (ht : BdL w l inner fp) (hge : ∀ b, b ∈ obs v ++ fp → B ≤ b) : ∃ A c, v = .slice A l.length c ∧ BdS B w l A c := by
  have hlt := NewB.lt (B := B) ho ht
  obtain ⟨A, c, rfl, hc, _⟩ := ht.reads ho
  refine ⟨A, c, rfl, hc, fun W hW => ?_⟩
  obtain ⟨A', c', e, _, hr⟩ := (ht.move (w1 := W) (fun b hb => hW b (hge b (List.mem_append_right _ hb)) (hlt b (List.mem_append_right _ hb)))).reads (own_move (w1 := W) ho (fun b hb => hW b (hge b (List.mem_append_left _ (obs_mem.2 hb))) (hlt b (List.mem_append_left _ (obs_mem.2 hb)))))
  injection e with e1 _ e2
  subst e1
  exact hr
theorem NewB.toS {B : Nat} {w : World} {l : List Bd} {v : Value} (h : NewB B w l v) : ∃ A c, v = .slice A l.length c ∧ BdS B w l A c := by
  obtain ⟨inner, fp, ho, ht, hn, hge⟩ := h
  exact BdS.of ho ht hge
theorem NewB.toS' {B : Nat} {w : World} {l : List Bd} {A : Option Addr} {n c : Nat} (h : NewB B w l (.slice A n c)) : n = l.length ∧ BdS B w l A c := by
  obtain ⟨A', c', e, hs⟩ := h.toS
  injection e with e1 e2 e3
  subst e1 e2 e3
  exact ⟨rfl, hs⟩
theorem Dr.b0 {w0 w W : World} {g : Nat} {s : List Int} {q : Int} (h : Dr w0 w g s q W) : w0.heap.size ≤ w.heap.size := by have := Q.IsS78.ge h.is; have := h.lt; omega
theorem own_base_of {w : World} {B e sz n : Nat} {v : Value} {xs : List Value} (h : w.ownsRow B e sz v n xs) : ∀ k, v.ownBlock = some k → B ≤ k := by
  intro k hk
  rcases h with ⟨_, ⟨rfl, _⟩ | ⟨g, cap, cur, rfl, hg, _⟩⟩
  · cases hk
  · have : g = k := by simpa [Value.ownBlock] using hk
    omega
/-- A list of few bindings with few scopes and short names. -/
def SmD (n : Nat) (l : List Bd) : Prop := l.length ≤ n ∧ ∀ b, b ∈ l → b.f0.size ≤ n ∧ b.f1.length ≤ n
theorem SmD.B {n : Nat} {l : List Bd} (h : SmD n l) (hn : n ≤ 2000000) : SmB l := ⟨by have := h.1; omega, fun b hb => by have := h.2 b hb; omega⟩
theorem SmD.more {n m : Nat} {l : List Bd} (h : SmD n l) (hn : n ≤ m) : SmD m l := ⟨by have := h.1; omega, fun b hb => by have := h.2 b hb; omega⟩
theorem bdsOk_small {l : List Bd} (h : BdsOk l) : SmD 100 l := by
  obtain ⟨h1, h2, _⟩ := bdsOk_iff.1 h
  refine ⟨by omega, fun b hb => ?_⟩
  have hk := h2 b hb
  exact ⟨by have := nmOk_size hk.1; omega, by have := hk.2.1.1; omega⟩
theorem addBindR_okD {l : List Bd} {x : Fm} {id : Int} (h : (addBindR l x id).2 = true) : BdsOk (addBindR l x id).1 := by
  unfold addBindR at h ⊢
  split at h
  · rename_i h1
    rw [if_pos h1]
    split at h
    · rename_i h2
      rw [if_pos h2]; exact pB_iff.1 h2
    · cases h
  · cases h
/-- A list of bindings is handed back by a function that draws: it lies in new memory, and the source stands at q. -/
def DrB (w0 : World) (g : Nat) (s : List Int) (q : Nat) (l : List Bd) (w : World) (e : Ending) (w' : World) : Prop :=
  ∃ A c, e = .returned (.slice A l.length c) ∧ BdS w.heap.size w' l A c ∧ IsRd w0 w' g s (q : Int) ∧ Below w0.heap.size w0 w' ∧ KeepBut w w' g none
/-- num over a literal whose block's number is told otherwise. -/
theorem num_litB {s : List Int} {l : List Int} {cs : Array Value} (hcs : cs.toList = l.map (Value.int .i64)) (hl : l.length ≤ 1000) {p : Nat} {n : Int} (h : Ev (fun k => Q.spec_l15Rd_num.f k s (p : Int) l) (n, ((p + 1 : Nat) : Int))) (g : Nat) (w0 W : World) {B : Nat} (hB : W.heap.size = B) (hi : IsRd w0 W g s (p : Int)) (hb : Below w0.heap.size w0 W) :
    Calls Tryd.prog 62 #[.pointer (some ⟨g, 0, none⟩), .slice (some ⟨B, 0, none⟩) l.length l.length] (W.alloc (.cells cs 3 (0, 0))) (fun e w' => e = .returned (.int .i64 n) ∧ IsRd w0 w' g s ((p + 1 : Nat) : Int) ∧ Below w0.heap.size w0 w' ∧ KeepBut W w' g none) := by
  subst hB
  exact num_lit hcs hl h g w0 W hi hb
abbrev nm3 : List ByteArray := [⟨#[120]⟩, ⟨#[120]⟩, ⟨#[121]⟩]
theorem nm3_small {n : ByteArray} (h : n ∈ nm3) : n.size ≤ 13 := by
  simp only [List.mem_cons, List.not_mem_nil, or_false] at h
  rcases h with rfl | rfl | rfl <;> decide
noncomputable def nextB (l : List Bd) (y : Fm) : List Bd := if (addBindR l y (1 + (l.length : Int))).2 = true then (addBindR l y (1 + (l.length : Int))).1 else l
structure RoundB (s : List Int) (l : List Bd) (p : Nat) (l' : List Bd) (q : Nat) (nm : ByteArray) (y : Fm) : Prop where
  of_ : Ev (fun k => Q.spec_l15Rd_of.f k s (p : Int) nm3) (nm, ((p + 1 : Nat) : Int))
  dress : DressOk s (lnm nm) (p + 1) y q
  tot : y.tot ≤ 1000
  next : l' = nextB l y
theorem draw_seq {s : List Int} (hs : Bts s) : ∀ (n p : Nat) (l : List Bd), p + 2 * n ≤ 900000 → SmD 100 l → ∃ (ls : Nat → List Bd) (ps : Nat → Nat) (nms : Nat → ByteArray) (ys : Nat → Fm), ls 0 = l ∧ ps 0 = p ∧ ps n ≤ p + 2 * n ∧ (∀ j, j ≤ n → SmD 100 (ls j)) ∧ ∀ j, j < n → RoundB s (ls j) (ps j) (ls (j + 1)) (ps (j + 1)) (nms j) (ys j)
  | 0, p, l, hp, hl => ⟨fun _ => l, fun _ => p, fun _ => ⟨#[]⟩, fun _ => lnm ⟨#[]⟩, rfl, rfl, by show p ≤ _; omega, fun _ _ => hl, fun j hj => absurd hj (Nat.not_lt_zero _)⟩
  | n + 1, p, l, hp, hl => by
    obtain ⟨nm, hnm, e1⟩ := ev_of hs p (by omega) nm3 (by simp) (by simp)
    have n1 := nm3_small hnm
    have ht1 : (lnm nm).tot = nm.size + 0 + 0 := Fm.tot_eq _
    have hs1 : (lnm nm).size = 1 + 0 := Fm.size_eq _
    obtain ⟨y, q, a1, b1, _, _, c1⟩ := dress_ex hs (lnm nm) (by omega) (p + 1) (by omega)
    have hl2 : SmD 100 (nextB l y) := by
      unfold nextB
      split
      · rename_i h; exact bdsOk_small (addBindR_okD h)
      · exact hl
    obtain ⟨ls, ps, nms, ys, h1, h2, h3, h4, h5⟩ := draw_seq hs n q (nextB l y) (by omega) hl2
    refine ⟨fun j => match j with | 0 => l | j + 1 => ls j, fun j => match j with | 0 => p | j + 1 => ps j, fun j => match j with | 0 => nm | j + 1 => nms j, fun j => match j with | 0 => y | j + 1 => ys j, rfl, rfl, by simp only; omega, fun j hj => ?_, fun j hj => ?_⟩
    · cases j with
      | zero => exact hl
      | succ j => exact h4 j (by omega)
    · cases j with
      | zero => exact ⟨e1, by simpa [h2] using c1, (show y.tot ≤ 1000 by omega), by simpa using h1⟩
      | succ j => exact h5 j (by omega)
abbrev num7 : List Int := [3, 2, 5, 1, 0, 7]
theorem num7_le {n : Int} (h : n ∈ num7) : 0 ≤ n ∧ n ≤ 7 := by
  simp only [List.mem_cons, List.not_mem_nil, or_false] at h
  rcases h with rfl | rfl | rfl | rfl | rfl | rfl <;> omega
theorem kB_nil (w : World) (A : Option Addr) : kB.C w A ([] : List Bd).length [] := ⟨rfl, by simp, fun h => absurd h (Nat.lt_irrefl 0)⟩
def DrawBOk (s : List Int) (p : Nat) (l : List Bd) (q : Nat) : Prop := ∀ (g : Nat) (w0 w : World), IsRd w0 w g s (p : Int) → Below w0.heap.size w0 w → Calls Tryd.prog 69 #[.pointer (some ⟨g, 0, none⟩)] w (DrB w0 g s q l w)
set_option maxHeartbeats 4000000 in
set_option maxRecDepth 100000 in
theorem l3Draw_ex {s : List Int} (hs : Bts s) (p : Nat) (hp : p ≤ 800000) : ∃ (l : List Bd) (q : Nat), q ≤ p + 20 ∧ SmD 100 l ∧ DrawBOk s p l q := by
  obtain ⟨n0, hn0, e0⟩ := ev_num hs p (by omega) num7 (by simp) (by simp)
  have hn := num7_le hn0
  obtain ⟨n, rfl⟩ := Int.eq_ofNat_of_zero_le hn.1
  have hn7 : n ≤ 7 := by omega
  obtain ⟨ls, ps, nms, ys, h1, h2, h3, h4, h5⟩ := draw_seq hs n (p + 1) [] (by omega) ⟨by simp, by simp⟩
  refine ⟨ls n, ps n, by omega, h4 n (Nat.le_refl _), fun g w0 w hi hb => ?_⟩
  have HE := Lib.hid e0
  have HD0 := Lib.hid (Dr.new hi hb)
  have H1 := Lib.hid h1
  have H2 := Lib.hid h2
  have H4 := Lib.hid h4
  have H5 := Lib.hid h5
  clear e0 hi hb h1 h2 h3 h4 h5 hn0 hn hs
  go_enter Tryd.func69, Tryd.ntmps69
  go_wp2_with fail
  have HD := Lib.hid (HD0.out.later (below_new w (.cells #[] 60)))
  refine (num_litB (l := num7) rfl (by simp) HE.out g w0 (w.alloc (.cells #[] 60)) (B := w.heap.size + 1) (by simp) HD.out.is HD.out.b).mono ?_
  rintro e w1 ⟨rfl, hi, hb, hk⟩
  replace HD := Lib.hid (HD.out.call hi hb hk)
  have HW := Lib.hid (show w.heap.size ≤ w1.heap.size from HD.out.size)
  clear hi hb hk HE HD0
  go_wp2_with fail
  go_loopg [3, 4] n (fun kq v3 v4 w' => ∃ (j : Nat) (A : Option Addr) (c : Nat), j ≤ n ∧ n - j ≤ kq ∧ v3 = .slice A (ls j).length c ∧ v4 = .int .i64 ((n - j : Nat) : Int) ∧ Aside0 (BdS w.heap.size w' (ls j) A c) ∧ Aside0 (Dr w0 w g s (ps j : Int) w'))
  case atStart =>
    refine ⟨0, some ⟨w.heap.size, 0, none⟩, 0, Nat.zero_le _, by omega, ?_, by simp, ⟨?_⟩, ⟨?_⟩⟩
    · rw [H1.out]; rfl
    · rw [H1.out]; exact ⟨Nat.le_refl _, fun W _ => kB_nil W _⟩
    · rw [H2.out]; exact HD.out
  case round =>
    obtain ⟨j, A, c, hj, hg, rfl, rfl, HO, HR⟩ := hrel
    by_cases hlt : j < n
    · have R := Lib.hid (H5.out j hlt)
      have hsm := H4.out j hj
      have HS := Lib.hid hsm
      have hlj : (ls j).length ≤ 100 := hsm.1
      generalize hlse : ls j = l at HO HS R hlj
      generalize hpse : ps j = pj at HR R
      generalize hnms : nms j = nm at R
      generalize hyse : ys j = y at R
      have t1 : decide (((n - j : Nat) : Int) > 0) = true := decide_eq_true (by omega)
      have t2 : decide (0 < n - j) = true := decide_eq_true (by omega)
      clear hsm hlse hpse hnms hyse
      go_wp2_with fail
      refine (of_lit (l := nm3) rfl (by simp) R.out.of_ g w0 _ HR.out.is HR.out.b).mono ?_
      rintro e w2 ⟨rfl, hi, hb, hk⟩
      have HO2 := Lib.hid (HO.out.move hk.1 (fun b h1 h2 => hk.2 b h2 (by have := HR.out.lt; omega) (by simp)))
      have HR2 := Lib.hid (HR.out.call hi hb hk)
      clear hi hb hk HO HR
      go_wp2_with fail
      refine (l1Name_any nm w2).mono ?_
      rintro e w3 ⟨rfl, hb⟩
      replace HO2 := Lib.hid (HO2.out.later hb)
      replace HR2 := Lib.hid (HR2.out.later hb)
      clear hb
      go_wp2_with fail
      refine (R.out.dress g none 0 none 0 w0 w3 HR2.out.is HR2.out.b (lnm_in nm w3)).mono ?_
      intro e w4 hpst
      obtain ⟨Y_3, Y_c3, Y_4, Y_c4, rfl, hf, hi, hb, hk⟩ := hpst.get
      replace HO2 := Lib.hid (HO2.out.move hk.1 (fun b h1 h2 => hk.2 b h2 (by have := HR2.out.lt; omega) (by simp)))
      replace HR2 := Lib.hid (HR2.out.call hi hb hk)
      have HY := Lib.hid hf.now
      clear hf hi hb hk hpst
      go_wp2_with fail
      refine (specAddB_any l A c y Y_3 Y_c3 Y_4 Y_c4 (1 + (l.length : Int)) w4 HO2.out.now HO2.out.le HY.out (HS.out.B (by omega)) (by have := R.out.tot; omega)).mono ?_
      rintro e w5 ⟨v, rfl, hnb, hb⟩
      obtain ⟨B, d, rfl, hbs⟩ := hnb.toS
      have HB2 := Lib.hid (hbs.low (show w.heap.size ≤ w4.heap.size from HR2.out.size))
      replace HO2 := Lib.hid (HO2.out.later hb)
      replace HR2 := Lib.hid (HR2.out.later hb)
      clear hb hnb hbs
      have HN := Lib.hid R.out.next
      unfold nextB at HN
      have hsub : ((n - j : Nat) : Int) - 1 = ((n - (j + 1) : Nat) : Int) := by omega
      rcases hrb : addBindR l y (1 + (l.length : Int)) with ⟨r, b⟩
      rw [hrb] at HN HB2
      rcases b with _ | _
      · have HN2 := Lib.hid ((if_neg (by simp) : (if ((r, false) : List Bd × Bool).2 = true then ((r, false) : List Bd × Bool).1 else l) = l))
        rw [HN2.out] at HN
        clear HB2 hrb
        go_wp2_with fail
        go_roundg (n - (j + 1))
        case measure => omega
        case rel => exact ⟨j + 1, A, c, by omega, Nat.le_refl _, by rw [HN.out], by go_num, ⟨by rw [HN.out]; exact HO2.out⟩, ⟨HR2.out⟩⟩
      · have HN2 := Lib.hid ((if_pos (by simp) : (if ((r, true) : List Bd × Bool).2 = true then ((r, true) : List Bd × Bool).1 else l) = r))
        rw [HN2.out] at HN
        clear HO2 hrb
        go_wp2_with fail
        go_roundg (n - (j + 1))
        case measure => omega
        case rel => exact ⟨j + 1, B, d, by omega, Nat.le_refl _, by rw [HN.out], by go_num, ⟨by rw [HN.out]; exact HB2.out⟩, ⟨HR2.out⟩⟩
    · obtain rfl : j = n := by omega
      have t1 : decide (((j - j : Nat) : Int) > 0) = false := decide_eq_false (by omega)
      have t2 : decide (0 < j - j) = false := decide_eq_false (by omega)
      go_wp2_with fail
      go_ret
      exact ⟨A, c, rfl, HO.out, HR.out.is, HR.out.b, HR.out.kp⟩
end Go.Proofs.YteeepenncddnjaaDoor
end
section
namespace Go.Proofs.YteeepenncddnjaaDoor
open Go.RowKit Go.Proofs.YteeepenncddnjaaDoorW.PrintWords Go.Proofs.YteeepenncddnjaaDoorW.PrintLast Go.Proofs.YteeepenncddnjaaDoorW.PrintMore
set_option linter.unusedVariables false
set_option linter.unusedSimpArgs false
theorem infoBdW : (Tryd.prog.info? 60).map (fun i => (i.zero, i.size, i.bytes)) = some (some (.agg #[(.string ⟨#[]⟩), (.slice none 0 0), (.int .i64 0)]), 3, 48) := by kernel_rfl
theorem l3Copy_any (l : List Bd) (A : Option Addr) (c : Nat) (w : World) (hr : kB.C w A l.length l) (hc : l.length ≤ c) (hs : SmB l) :
    Calls Tryd.prog 78 #[.slice A l.length c] w (fun e w' => ∃ B d, e = .returned (.slice B l.length d) ∧ NewB w.heap.size w' l (.slice B l.length d) ∧ Below w.heap.size w w') := by
  obtain ⟨k, hk⟩ := (ev_l3Copy hs).rounds
  refine (Q.spec_l3Copy.calls k A c l _ w hr hc hk).mono ?_
  rintro e w' ⟨v, rfl, hS, hb⟩
  have hn := NewB.ofS hS
  obtain ⟨B, d, rfl, _⟩ := hn.toS
  exact ⟨B, d, rfl, hn, hb⟩
/-- What l3Wrong leaves of the list l, with the draws i and v (at p and p + 1). -/
structure Wr (s : List Int) (l : List Bd) (p : Nat) (i : Nat) (x : Bd) (v : Int) (l' : List Bd) (q : Nat) : Prop where
  h0 : v = 0 → ∃ n, Ev (fun k => Q.spec_l15Rd_num.f k s ((p + 2 : Nat) : Int) [0, 1000, 5]) (n, ((p + 3 : Nat) : Int)) ∧ l' = l.set i ⟨x.f0, x.f1, n⟩ ∧ q = p + 3
  h1 : v = 1 → ∃ n, Ev (fun k => Q.spec_l15Rd_num.f k s ((p + 2 : Nat) : Int) [0, 1, 98]) (n, ((p + 3 : Nat) : Int)) ∧ l' = l.set i ⟨x.f0, x.f1 ++ [n], x.f2⟩ ∧ q = p + 3
  h2 : v = 2 → l' = l ++ [x] ∧ q = p + 2
  h3 : v ≠ 0 → v ≠ 1 → v ≠ 2 → l' = l ∧ q = p + 2
def WrongOk (s : List Int) (l : List Bd) (p : Nat) (l' : List Bd) (q : Nat) : Prop := ∀ (g : Nat) (w0 w : World) (A : Option Addr) (c : Nat), IsRd w0 w g s (p : Int) → Below w0.heap.size w0 w → kB.C w A l.length l → l.length ≤ c →
  Calls Tryd.prog 68 #[.pointer (some ⟨g, 0, none⟩), .slice A l.length c] w (DrB w0 g s q l' w)
set_option maxHeartbeats 4000000 in
set_option maxRecDepth 100000 in
theorem wrong_none {s : List Int} (p : Nat) : WrongOk s [] p [] p := by
  intro g w0 w A c hi hb hr hc
  have HD := Lib.hid (Dr.new hi hb)
  have t1 : (([] : List Bd).length == 0) = true := rfl
  have t2 : ((([] : List Bd).length : Int) == 0) = true := rfl
  have HC := Lib.hid (l3Copy_any [] A c w hr hc ⟨by simp, by simp⟩)
  clear hi hb hr
  go_enter Tryd.func68, Tryd.ntmps68
  go_wp2_with fail
  refine HC.out.mono ?_
  rintro e w1 ⟨B, d, rfl, hn, hb⟩
  have HN := Lib.hid hn.toS'.2
  have HD1 := Lib.hid (HD.out.later hb)
  clear hn hb
  go_wp2_with fail
  go_ret
  exact ⟨B, d, rfl, HN.out, HD1.out.is, HD1.out.b, HD1.out.kp⟩
set_option maxHeartbeats 8000000 in
set_option maxRecDepth 100000 in
theorem wrong_walk {s : List Int} (l : List Bd) (hs : SmB l) (hl2 : l.length ≤ 2000) (hx2 : ∀ b, b ∈ l → b.f1.length ≤ 2000) (p : Nat) (i : Nat) (hi : i < l.length) (v : Int) (l' : List Bd) (q : Nat)
    (e1 : Ev (fun k => Q.spec_l15Rd_pick.f k s (p : Int) (l.length : Int)) ((i : Int), ((p + 1 : Nat) : Int))) (e2 : Ev (fun k => Q.spec_l15Rd_pick.f k s ((p + 1 : Nat) : Int) 20) (v, ((p + 1 + 1 : Nat) : Int))) (hw : Wr s l p i l[i] v l' q) : WrongOk s l p l' q := by
  intro g w0 w A c hi0 hb hr hc
  have HD := Lib.hid (Dr.new hi0 hb)
  have t1 : (l.length == 0) = false := beq_eq_false_iff_ne.mpr (by omega)
  have t2 : ((l.length : Int) == 0) = false := beq_eq_false_iff_ne.mpr (by omega)
  have HC := Lib.hid (l3Copy_any l A c w hr hc hs)
  have HE1 := Lib.hid e1
  have HE2 := Lib.hid e2
  have HWR := Lib.hid hw
  have hx3 := hx2 l[i] (List.getElem_mem hi)
  have HX3 := Lib.hid hx3
  clear hi0 hb hr e1 e2 hw hs hx2 hx3
  go_enter Tryd.func68, Tryd.ntmps68
  go_wp2_with fail
  refine HC.out.mono ?_
  rintro e w1 ⟨B, d, rfl, hn, hb⟩
  have HN := Lib.hid hn
  have HD1 := Lib.hid (HD.out.later hb)
  clear hn hb HC HD
  go_wp2_with fail
  refine (pick_at HE1.out g w0 w1 HD1.out.is HD1.out.b).mono ?_
  rintro e w2 ⟨rfl, hi0, hb, hk⟩
  have HN2 := Lib.hid (HN.out.move (fun b h1 h2 => hk.2 b h2 (by have := HD1.out.lt; omega) (by simp)))
  have HD2 := Lib.hid (HD1.out.call hi0 hb hk)
  clear hi0 hb hk HN HD1
  go_wp2_with fail
  refine (pick_at HE2.out g w0 w2 HD2.out.is HD2.out.b).mono ?_
  rintro e w3 ⟨rfl, hi0, hb, hk⟩
  have HN3 := Lib.hid (HN2.out.move (fun b h1 h2 => hk.2 b h2 (by have := HD2.out.lt; omega) (by simp)))
  have HD3 := Lib.hid (HD2.out.call hi0 hb hk)
  clear hi0 hb hk HN2 HD2
  have HSZ := Lib.hid (show w.heap.size ≤ w3.heap.size from HD3.out.size)
  have p1 : (0 : Int) ≤ (i : Int) := by omega
  have p2 : (i : Int) < (l.length : Int) := by omega
  by_cases v0 : v = 0
  · have u0 : (v == 0) = true := beq_iff_eq.mpr v0
    obtain ⟨n, en, rfl, rfl⟩ := HWR.out.h0 v0
    have HEN := Lib.hid en
    clear en v0 HWR
    go_wp2_with fail
    refine (num_lit (l := [0, 1000, 5]) rfl (by simp) HEN.out g w0 w3 HD3.out.is HD3.out.b).mono ?_
    rintro e w4 ⟨rfl, hi0, hb, hk⟩
    have HN4 := Lib.hid (HN3.out.move (fun b h1 h2 => hk.2 b h2 (by have := HD3.out.lt; omega) (by simp)))
    have HD4 := Lib.hid (HD3.out.call hi0 hb hk)
    clear hi0 hb hk HN3 HD3
    obtain ⟨gr, cap, C, d', e, hat⟩ := HN4.out.atI HD4.out.size i hi
    obtain ⟨rfl, rfl⟩ : B = some ⟨gr, 0, none⟩ ∧ d = cap := by injection e with a1 _ a2; exact ⟨a1, a2⟩
    have HAT := Lib.hid hat
    have z2 := hat.c2
    have f2 := hat.fz (i * 3 + 2)
    clear hat e
    have HF := Lib.hid (HAT.out.id_ n).toS'
    have HDF := Lib.hid (HD4.out.put HAT.out.ge (j := i * 3 + 2) (.int .i64 n))
    have HLS := Lib.hid (show (l.set i ⟨l[i].f0, l[i].f1, n⟩).length = l.length from List.length_set)
    go_wp2_with fail
    go_ret
    exact ⟨_, _, by rw [HLS.out]; rfl, HF.out.2, HDF.out.is, HDF.out.b, HDF.out.kp⟩
  have u0 : (v == 0) = false := beq_eq_false_iff_ne.mpr v0
  by_cases v1 : v = 1
  · have u1 : (v == 1) = true := beq_iff_eq.mpr v1
    obtain ⟨n, en, rfl, rfl⟩ := HWR.out.h1 v1
    have HEN := Lib.hid en
    clear en v0 v1 HWR
    obtain ⟨gr, cap, C, d', e, hat⟩ := HN3.out.atI HD3.out.size i hi
    obtain ⟨rfl, rfl⟩ : B = some ⟨gr, 0, none⟩ ∧ d = cap := by injection e with a1 _ a2; exact ⟨a1, a2⟩
    have HAT := Lib.hid hat
    have z1 := hat.c1
    clear e
    have HLS := Lib.hid (fun b : Bd => (List.length_set : (l.set i b).length = l.length))
    have HG := Lib.hid (And.intro hat.ge hat.lt)
    generalize hxe : l[i] = x at HX3 z1
    have HXE := Lib.hid hxe
    clear hxe HAT
    go_wp2_with fail
    have HN := Lib.hid (HN3.out.move (W := w3.drew) (fun b h1 h2 => (below_drew (Below.refl w3.heap.size w3)).block b h2))
    have HD := Lib.hid (HD3.out.later (below_drew (Below.refl _ _)))
    have HSZ2 := Lib.hid (show w3.heap.size ≤ w3.drew.heap.size from Nat.le_refl _)
    have HZ := Lib.hid (show w3.drew.cell? ⟨gr, i * 3 + 1, none⟩ = some (.slice C x.f1.length d') from z1)
    refine start_ (n := 15) (S := (fun W : World => W.cell? ⟨gr, i * 3 + 1, none⟩ = some (.slice C x.f1.length d'))) (ds := [14]) #[false, false, false, false, false, false, false, false, false, false, false, false, false, false, false] (by kernel_rfl) rfl rfl z1 (fun hHeld => ?_)
    clear z1 HN3 HD3 hat
    generalize w3.drew = wd at HD HN HSZ2 HZ hHeld ⊢
    refine pure_ (i := 0) (N := some 30) (v := ?_) (a' := ?_) #[true, false, false, false, false, false, false, false, false, false, false, false, false, false, false] rfl rfl (by kernel_rfl) (fun _ _ _ h => h) (Or.inl ⟨by rfl, ?_⟩) ?_ ?_
    rotate_left
    · intro w'
      go_simp
      with_reducible rfl
    rotate_left
    · simp only [Act.put, List.setIfInBounds_toArray, List.set_cons_zero, List.set_cons_succ, i64_w, i32_w]
      rfl
    refine pure_ (i := 1) (N := some 31) (v := ?_) (a' := ?_) #[true, true, false, false, false, false, false, false, false, false, false, false, false, false, false] rfl rfl (by kernel_rfl) (fun _ _ _ h => h) (Or.inl ⟨by rfl, ?_⟩) ?_ ?_
    rotate_left
    · intro w'
      go_simp
      with_reducible rfl
    rotate_left
    · simp only [Act.put, List.setIfInBounds_toArray, List.set_cons_zero, List.set_cons_succ, i64_w, i32_w]
      rfl
    refine pure_ (i := 2) (N := some 32) (v := ?_) (a' := ?_) #[true, true, true, false, false, false, false, false, false, false, false, false, false, false, false] rfl rfl (by kernel_rfl) (fun _ _ _ h => h) (Or.inl ⟨by rfl, ?_⟩) ?_ ?_
    rotate_left
    · intro w'
      go_simp
      with_reducible rfl
    rotate_left
    · simp only [Act.put, List.setIfInBounds_toArray, List.set_cons_zero, List.set_cons_succ, i64_w, i32_w]
      rfl
    refine pure_ (i := 3) (N := some 33) (v := ?_) (a' := ?_) #[true, true, true, true, false, false, false, false, false, false, false, false, false, false, false] rfl rfl (by kernel_rfl) (fun _ _ _ h => h) (Or.inl ⟨by rfl, ?_⟩) ?_ ?_
    rotate_left
    · intro w'
      go_simp
      with_reducible rfl
    rotate_left
    · simp only [Act.put, List.setIfInBounds_toArray, List.set_cons_zero, List.set_cons_succ, i64_w, i32_w]
      rfl
    refine pure_ (i := 7) (N := some 37) (v := ?_) (a' := ?_) #[true, true, true, true, false, false, false, true, false, false, false, false, false, false, false] rfl rfl (by kernel_rfl) (fun _ _ _ h => h) (Or.inl ⟨by rfl, ?_⟩) ?_ ?_
    rotate_left
    · intro w'
      go_simp
      with_reducible rfl
    rotate_left
    · simp only [Act.put, List.setIfInBounds_toArray, List.set_cons_zero, List.set_cons_succ, i64_w, i32_w]
      rfl
    refine pure_ (i := 4) (N := some 34) (v := ?_) (a' := ?_) #[true, true, true, true, true, false, false, true, false, false, false, false, false, false, false] rfl rfl (by kernel_rfl) (fun _ _ _ h => h) (Or.inl ⟨by rfl, ?_⟩) ?_ ?_
    rotate_left
    · intro w'
      go_simp
      with_reducible rfl
    rotate_left
    · simp only [Act.put, List.setIfInBounds_toArray, List.set_cons_zero, List.set_cons_succ, i64_w, i32_w]
      rfl
    refine pure_ (i := 5) (N := some 35) (v := ?_) (a' := ?_) #[true, true, true, true, true, true, false, true, false, false, false, false, false, false, false] rfl rfl (by kernel_rfl) (fun _ _ _ h => h) (Or.inl ⟨by rfl, ?_⟩) ?_ ?_
    rotate_left
    · intro w'
      go_simp
      with_reducible rfl
    rotate_left
    · simp only [Act.put, List.setIfInBounds_toArray, List.set_cons_zero, List.set_cons_succ, i64_w, i32_w]
      rfl
    refine take_ (i := 6) (N := some 36) (v := ?_) (a' := ?_) #[true, true, true, true, true, true, true, true, false, false, false, false, false, false, false] rfl rfl (by kernel_rfl) (fun _ _ _ h => h) (Or.inl ⟨by rfl, ?_⟩) hHeld ?_ ?_
    rotate_left
    · rintro w' s0
      go_simp
      with_reducible rfl
    rotate_left
    · simp only [Act.put, List.setIfInBounds_toArray, List.set_cons_zero, List.set_cons_succ, i64_w, i32_w]
      rfl
    refine one_ (i := 8) (N := some 38) #[true, true, true, true, true, true, true, true, true, false, false, false, false, false, false] rfl rfl (by kernel_rfl) (by decide) (fun K hK => ?_)
    refine value_ (w1 := ?_) (v := ?_) (by rfl) rfl ?_ ?_
    rotate_left 2
    · go_simp
      constructor
      · rfl
      · rfl
    refine hK.out _ _ (ck0 (below_new wd _) hHeld) (fun hHeld => ?_)
    clear hK K
    refine norm_ (a' := ?_) ?_ ?_
    rotate_left
    · show Act.put _ (some 38) _ = _
      simp only [Act.put, List.setIfInBounds_toArray, List.set_cons_zero, List.set_cons_succ, i64_w, i32_w]
      rfl
    refine one_ (i := 9) (N := some 39) #[true, true, true, true, true, true, true, true, true, true, false, false, false, false, false] rfl rfl (by kernel_rfl) (by decide) (fun K hK => ?_)
    refine goes_ Tryd.func62 (by kernel_rfl) rfl #[.pointer (some ⟨g, 0, none⟩), .slice (some ⟨wd.heap.size, 0, none⟩) 3 3] (by rfl) rfl rfl (by (try simp only [List.map_toArray, List.map_cons, List.map_nil]); first | done | rfl) ?_
    refine (num_lit (l := [0, 1, 98]) rfl (by simp) HEN.out g w0 wd HD.out.is HD.out.b).mono ?_
    rintro e w4 ⟨rfl, hi0, hb, hk⟩
    refine ⟨_, rfl, ?_⟩
    have HZ4 := Lib.hid ((World.cell?_of_block (w := wd) (hk.2 gr (by have := HG.out.2; have := HSZ2.out; omega) (by have := HD.out.lt; have := HG.out.1; omega) (by simp))).trans HZ.out)
    have HN4 := Lib.hid (HN.out.move (fun b h1 h2 => hk.2 b h2 (by have := HD.out.lt; omega) (by simp)))
    have HD4 := Lib.hid (HD.out.call hi0 hb hk)
    clear hi0 hb hk HN HD
    have HAT := Lib.hid (HN4.out.atC HD4.out.size i hi HXE.out HZ4.out)
    refine hK.out _ _ HZ4.out (fun hHeld => ?_)
    clear hK K
    refine norm_ (a' := ?_) ?_ ?_
    rotate_left
    · show Act.put _ (some 39) _ = _
      simp only [Act.put, List.setIfInBounds_toArray, List.set_cons_zero, List.set_cons_succ, i64_w, i32_w]
      rfl
    refine one_ (i := 10) (N := some 40) #[true, true, true, true, true, true, true, true, true, true, true, false, false, false, false] rfl rfl (by kernel_rfl) (by decide) (fun K hK => ?_)
    refine value_ (w1 := ?_) (v := ?_) (by rfl) rfl ?_ ?_
    rotate_left 2
    · go_simp
      constructor
      · rfl
      · rfl
    refine hK.out _ _ (ck0 (below_new w4 _) HZ4.out) (fun hHeld => ?_)
    clear hK K
    refine norm_ (a' := ?_) ?_ ?_
    rotate_left
    · show Act.put _ (some 40) _ = _
      simp only [Act.put, List.setIfInBounds_toArray, List.set_cons_zero, List.set_cons_succ, i64_w, i32_w]
      rfl
    refine one_ (i := 11) (N := some 41) #[true, true, true, true, true, true, true, true, true, true, true, true, false, false, false] rfl rfl (by kernel_rfl) (by decide) (fun K hK => ?_)
    refine step_append_cells (w0 := w0) (W := w4) w0.heap.size (by rfl) (.tmp 36) (.tmp 40) 23 3 (.int .i64 0) 1 8 rfl Tryd.underlying23 infoI rfl (by decide) (by omega) (.slice C x.f1.length d') x.f1.length (encI x.f1) [.int .i64 n] rfl rfl rfl (by simp [Value.oneCell']) (own_weaken HAT.out.row HD4.out.b0) HD4.out.b HD4.out.b.size (by have := HX3.out; omega) ?_
    intro v' w8 ho hb8 hg8 hat8
    have ho8 : w8.ownsRow 0 3 1 v' (x.f1 ++ [n]).length (encI (x.f1 ++ [n])) := by
      rw [List.length_append, show encI (x.f1 ++ [n]) = encI x.f1 ++ [.int .i64 n] from by simp [encs]]
      exact own_weaken ho (Nat.zero_le _)
    obtain ⟨A', c', rfl⟩ : ∃ A c, v' = .slice A (x.f1.length + 1) c := by
      rcases ho with ⟨_, ⟨rfl, h0⟩ | ⟨g5, cap, cur, rfl, _⟩⟩
      · exact absurd h0 (by omega)
      · exact ⟨_, _, rfl⟩
    obtain ⟨q1, qf, hN8⟩ := HAT.out.sc_ w8 _ (x.f1 ++ [n]) hg8 ho8 hat8
    have HQ1 := Lib.hid q1
    have HQF := Lib.hid qf
    have HF := Lib.hid hN8.toS'
    have HDF := Lib.hid ((HD4.out.grown hg8 (fun k hk => by have := own_base_of HAT.out.row k hk; omega)).put HAT.out.ge (j := i * 3 + 1) (.slice A' (x.f1.length + 1) c'))
    have HLS := Lib.hid (fun b : Bd => (List.length_set : (l.set i b).length = l.length))
    clear ho hb8 hg8 hat8 ho8 q1 qf hN8
    refine hK.out _ _ HQ1.out (fun hHeld => ?_)
    clear hK K
    refine norm_ (a' := ?_) ?_ ?_
    rotate_left
    · show Act.put _ (some 41) _ = _
      simp only [Act.put, List.setIfInBounds_toArray, List.set_cons_zero, List.set_cons_succ, i64_w, i32_w]
      rfl
    refine pure_ (i := 12) (N := some 42) (v := ?_) (a' := ?_) #[true, true, true, true, true, true, true, true, true, true, true, true, true, false, false] rfl rfl (by kernel_rfl) (fun _ _ _ h => h) (Or.inl ⟨by rfl, ?_⟩) ?_ ?_
    rotate_left
    · intro w'
      go_simp
      with_reducible rfl
    rotate_left
    · simp only [Act.put, List.setIfInBounds_toArray, List.set_cons_zero, List.set_cons_succ, i64_w, i32_w]
      rfl
    refine pure_ (i := 13) (N := some 43) (v := ?_) (a' := ?_) #[true, true, true, true, true, true, true, true, true, true, true, true, true, true, false] rfl rfl (by kernel_rfl) (fun _ _ _ h => h) (Or.inl ⟨by rfl, ?_⟩) ?_ ?_
    rotate_left
    · intro w'
      go_simp
      with_reducible rfl
    rotate_left
    · simp only [Act.put, List.setIfInBounds_toArray, List.set_cons_zero, List.set_cons_succ, i64_w, i32_w]
      rfl
    refine last_ (i := 14) (N := none) #[true, true, true, true, true, true, true, true, true, true, true, true, true, true, true] rfl rfl (by kernel_rfl) (by decide) (fun K hK => ?_)
    have z1 := HQ1.out
    have f1 := HQF.out
    refine skip_ (w1 := ?_) (by rfl) rfl ?_ ?_
    rotate_left
    · go_simp
      rfl
    refine hK.out _ _ ?_
    clear hK K z1 f1
    refine done_ (by kernel_rfl) ?_
    try go_wp2_with fail
    go_ret
    exact ⟨_, _, by rw [HLS.out]; rfl, by rw [HXE.out]; exact HF.out.2, HDF.out.is, HDF.out.b, HDF.out.kp⟩
  have u1 : (v == 1) = false := beq_eq_false_iff_ne.mpr v1
  by_cases v2 : v = 2
  · have u2 : (v == 2) = true := beq_iff_eq.mpr v2
    obtain ⟨rfl, rfl⟩ := HWR.out.h2 v2
    clear v0 v1 v2 HWR
    obtain ⟨inner, fp, ho, ht, hnd, hge⟩ := HN3.out
    obtain ⟨gr, cap, e, hg0, hg1⟩ := ho.form (by omega)
    obtain ⟨rfl, rfl⟩ : B = some ⟨gr, 0, none⟩ ∧ d = cap := by injection e with a1 _ a2; exact ⟨a1, a2⟩
    obtain ⟨ia, v1_, ib, fa, fb, hin, hfp, hil, h1, _⟩ := ht.at2 i hi
    obtain ⟨C, d', rfl, _, _⟩ := own_C h1
    have HH1 := Lib.hid h1
    have HIN := Lib.hid hin
    have HO := Lib.hid ho
    have HT := Lib.hid ht
    have HND := Lib.hid hnd
    have HGE := Lib.hid hge
    have HFP := Lib.hid hfp
    have hoi := ho
    rw [hin] at hoi
    obtain ⟨⟨z0, z1, z2⟩, _, _⟩ := row_put3 hoi hil
    generalize hxe : l[i] = x at HH1 HIN z0 z1 z2 HFP
    have HXE := Lib.hid hxe
    clear e ho ht hnd hge hin hfp h1 hoi hil hg0 hxe HX3 HN3
    go_wp2_with (first | ((with_reducible refine gate_dst (N := 52) rfl ?_); refine print_append_cells (w0 := w0) w0.heap.size rfl (.tmp 46) (.tmp 51) 35 60 (.agg #[(.string ⟨#[]⟩), (.slice none 0 0), (.int .i64 0)]) 3 48 rfl Tryd.underlying35 infoBdW rfl (by decide) (by omega) (.slice (some ⟨gr, 0, none⟩) l.length d) l.length inner [.string x.f0, .slice C x.f1.length d', .int .i64 x.f2] rfl rfl rfl (by simp [Value.oneCell']) (own_base_ HO.out (fun b hb => by have := HGE.out b (List.mem_append_left _ (obs_mem.2 hb)); have := HD3.out.b0; omega)) HD3.out.b HD3.out.b.size (by omega) ?_; intro v' w8 ho hb8 hg8 hat8))
    have hfpn : ∀ b, b ∈ fp → some b ≠ (Value.slice (some ⟨gr, 0, none⟩) l.length d).ownBlock := fun b hb he => (List.nodup_append.1 HND.out).2.2 b (obs_mem.2 he.symm) b hb rfl
    have hlt := NewB.lt (B := 0) HO.out HT.out
    have ht8 := HT.out.move (w1 := w8) (fun b hb => hg8.block b (hlt b (List.mem_append_right _ hb)) (hfpn b hb))
    have hvf : ∀ b, b ∈ obs (Value.slice C x.f1.length d') → b ∈ fp := fun b hb => by rw [HFP.out]; simp [hb]
    have h18 := own_move (w1 := w8) HH1.out (fun b hb => hg8.block b (hlt b (List.mem_append_right _ (hvf b (obs_mem.2 hb)))) (hfpn b (hvf b (obs_mem.2 hb))))
    have hB8 := ht8.append (BdL.one (b := x) h18)
    have hl8 : (l ++ [x]).length = l.length + 1 := by simp
    obtain ⟨A8, c8, e8, hs8⟩ := BdS.of (B := w.heap.size) (l := l ++ [x]) (by rw [hl8]; exact own_weaken ho (Nat.zero_le _)) hB8 (fun b hb => by
      rcases List.mem_append.1 hb with h | h
      · rcases hat8 with q | ⟨c, q, hc⟩
        · exact HGE.out b (List.mem_append_left _ (obs_mem.2 (q ▸ obs_mem.1 h)))
        · have := obs_mem.1 h
          rw [q] at this
          cases this
          have := HSZ.out
          omega
      · rcases List.mem_append.1 h with h | h
        · exact HGE.out b (List.mem_append_right _ h)
        · exact HGE.out b (List.mem_append_right _ (hvf b h)))
    subst e8
    have HF := Lib.hid (show BdS w.heap.size w8 (l ++ [l[i]]) A8 c8 from by rw [HXE.out]; exact hs8)
    have HDF := Lib.hid (HD3.out.grown hg8 (fun k hk => HGE.out k (List.mem_append_left _ (obs_mem.2 hk))))
    clear ho hb8 hg8 hat8 hfpn hlt ht8 hvf h18 hB8 hs8 hl8 z0 z1 z2
    go_wp2_with fail
    go_ret
    exact ⟨A8, c8, by rw [HXE.out]; rfl, HF.out, HDF.out.is, HDF.out.b, HDF.out.kp⟩
  have u2 : (v == 2) = false := beq_eq_false_iff_ne.mpr v2
  obtain ⟨rfl, rfl⟩ := HWR.out.h3 v0 v1 v2
  have HF := Lib.hid HN3.out.toS'
  clear v0 v1 v2 HWR
  go_wp2_with fail
  go_ret
  exact ⟨_, _, rfl, HF.out.2, HD3.out.is, HD3.out.b, HD3.out.kp⟩
theorem smD_set {n : Nat} {l : List Bd} (h : SmD n l) (i : Nat) {b : Bd} (hb : b.f0.size ≤ n + 1 ∧ b.f1.length ≤ n + 1) : SmD (n + 1) (l.set i b) :=
  ⟨by rw [List.length_set]; have := h.1; omega, fun c hc => by
    rcases List.mem_or_eq_of_mem_set hc with q | q
    · have := h.2 c q; omega
    · rw [q]; exact hb⟩
theorem l3Wrong_ex {s : List Int} (hs : Bts s) (l : List Bd) (n : Nat) (hl : SmD n l) (hn : n ≤ 1000) (p : Nat) (hp : p ≤ 800000) : ∃ (l' : List Bd) (q : Nat), q ≤ p + 3 ∧ SmD (n + 1) l' ∧ WrongOk s l p l' q := by
  by_cases h0 : l = []
  · subst h0
    exact ⟨[], p, by omega, ⟨by simp, by simp⟩, wrong_none p⟩
  have hpos := List.length_pos_iff.2 h0
  have hln := hl.1
  obtain ⟨k, hk, e1⟩ := ev_pick hs p (by omega) (l.length : Int) (by omega)
  obtain ⟨i, rfl⟩ := Int.eq_ofNat_of_zero_le (hk (by omega)).1
  have hi : i < l.length := by have := (hk (by omega)).2; omega
  obtain ⟨v, hv, e2⟩ := ev_pick hs (p + 1) (by omega) 20 (by omega)
  obtain ⟨a, _, ea⟩ := ev_num hs (p + 2) (by omega) [0, 1000, 5] (by simp) (by simp)
  obtain ⟨b, _, eb⟩ := ev_num hs (p + 2) (by omega) [0, 1, 98] (by simp) (by simp)
  have hx := hl.2 _ (List.getElem_mem hi)
  have key := fun l' q hw => wrong_walk l (hl.B (by omega)) (by omega) (fun b hb => by have := hl.2 b hb; omega) p i hi v l' q e1 e2 hw
  by_cases v0 : v = 0
  · exact ⟨_, _, by omega, smD_set hl i ⟨by show l[i].f0.size ≤ _; omega, by show l[i].f1.length ≤ _; omega⟩, key (l.set i ⟨l[i].f0, l[i].f1, a⟩) (p + 3) ⟨fun _ => ⟨a, ea, rfl, rfl⟩, fun h => absurd (v0.symm.trans h) (by decide), fun h => absurd (v0.symm.trans h) (by decide), fun h => absurd v0 h⟩⟩
  by_cases v1 : v = 1
  · exact ⟨_, _, by omega, smD_set hl i ⟨by show l[i].f0.size ≤ _; omega, by show (l[i].f1 ++ [b]).length ≤ _; rw [List.length_append, List.length_singleton]; omega⟩, key (l.set i ⟨l[i].f0, l[i].f1 ++ [b], l[i].f2⟩) (p + 3) ⟨fun h => absurd h v0, fun _ => ⟨b, eb, rfl, rfl⟩, fun h => absurd (v1.symm.trans h) (by decide), fun _ h => absurd v1 h⟩⟩
  by_cases v2 : v = 2
  · exact ⟨_, _, by omega, ⟨by simp; omega, fun c hc => by
      rcases List.mem_append.1 hc with q | q
      · have := hl.2 c q; omega
      · rw [List.mem_singleton.1 q]; omega⟩, key (l ++ [l[i]]) (p + 2) ⟨fun h => absurd h v0, fun h => absurd h v1, fun _ => ⟨rfl, rfl⟩, fun _ _ h => absurd v2 h⟩⟩
  · exact ⟨_, _, by omega, hl.more (by omega), key l (p + 2) ⟨fun h => absurd h v0, fun h => absurd h v1, fun h => absurd h v2, fun _ _ _ => ⟨rfl, rfl⟩⟩⟩
end Go.Proofs.YteeepenncddnjaaDoor
end
section
namespace Go.Proofs.YteeepenncddnjaaDoor
open Go.RowKit Go.Proofs.YteeepenncddnjaaDoorW.PrintWords Go.Proofs.YteeepenncddnjaaDoorW.PrintLast Go.Proofs.YteeepenncddnjaaDoorW.PrintMore
set_option linter.unusedVariables false
set_option linter.unusedSimpArgs false
end Go.Proofs.YteeepenncddnjaaDoor
end
section
namespace Go.Proofs.YteeepenncddnjaaDoor
open Go.RowKit Go.Proofs.YteeepenncddnjaaDoorW.PrintWords Go.Proofs.YteeepenncddnjaaDoorW.PrintLast Go.Proofs.YteeepenncddnjaaDoorW.PrintMore
set_option linter.unusedVariables false
set_option linter.unusedSimpArgs false
theorem BdS.far {lo : Nat} {w W : World} {l : List Bd} {A : Option Addr} {c k : Nat} (h : BdS lo w l A c) (hs : w.heap.size ≤ W.heap.size) (hm : ∀ b, b ≠ k → W.heap[b]? = w.heap[b]?) (hk : k < lo) : BdS lo W l A c := h.move hs (fun b h1 _ => hm b (by omega))
theorem FmS.far {lo : Nat} {w W : World} {x : Fm} {A3 A4 : Option Addr} {c3 c4 k : Nat} (h : FmS lo w x A3 c3 A4 c4) (hs : w.heap.size ≤ W.heap.size) (hm : ∀ b, b ≠ k → W.heap[b]? = w.heap[b]?) (hk : k < lo) : FmS lo W x A3 c3 A4 c4 := h.move hs (fun b h1 _ => hm b (by omega))
/-- Bindings and a form are handed back: they read. -/
def GetBf (w : World) (bl : List Bd) (x : Fm) (e : Ending) (w' : World) : Prop := ∃ A c A3 c3 A4 c4, e = .returned (.tuple #[.slice A bl.length c, .agg #[.int .i64 x.f0, .string x.f1, .int .i64 x.f2, .slice A3 x.f3.length c3, .slice A4 x.f4.length c4]]) ∧ bl.length ≤ c ∧ kB.C w' A bl.length bl ∧ FmIn w' x A3 c3 A4 c4 ∧ Below w.heap.size w w'
def GetBfn (w : World) (bl : List Bd) (x : Fm) (n : Int) (e : Ending) (w' : World) : Prop := ∃ A c A3 c3 A4 c4, e = .returned (.tuple #[.slice A bl.length c, .agg #[.int .i64 x.f0, .string x.f1, .int .i64 x.f2, .slice A3 x.f3.length c3, .slice A4 x.f4.length c4], .int .i64 n]) ∧ bl.length ≤ c ∧ kB.C w' A bl.length bl ∧ FmIn w' x A3 c3 A4 c4 ∧ Below w.heap.size w w'
def GetBff (w : World) (bl : List Bd) (x y : Fm) (e : Ending) (w' : World) : Prop := ∃ A c A3 c3 A4 c4 B3 d3 B4 d4, e = .returned (.tuple #[.slice A bl.length c, .agg #[.int .i64 x.f0, .string x.f1, .int .i64 x.f2, .slice A3 x.f3.length c3, .slice A4 x.f4.length c4], .agg #[.int .i64 y.f0, .string y.f1, .int .i64 y.f2, .slice B3 y.f3.length d3, .slice B4 y.f4.length d4]]) ∧ bl.length ≤ c ∧ kB.C w' A bl.length bl ∧ FmIn w' x A3 c3 A4 c4 ∧ FmIn w' y B3 d3 B4 d4 ∧ Below w.heap.size w w'
/-- Bindings are handed back. -/
def GetBl (w : World) (bl : List Bd) (e : Ending) (w' : World) : Prop := ∃ A c, e = .returned (.slice A bl.length c) ∧ bl.length ≤ c ∧ kB.C w' A bl.length bl ∧ Below w.heap.size w w'
set_option maxHeartbeats 2000000 in
set_option maxRecDepth 100000 in
theorem dDrawBindsValid (l : List Int) (hl : ∀ z, z ∈ l → 0 ≤ z ∧ z < 256) : ∃ (bl : List Bd), SmD 102 bl ∧ ∀ (A : Option Addr) (c : Nat) (w : World), (Kd.int .u8).C w A l.length l → l.length ≤ c → Calls Tryd.prog 41 #[.slice A l.length c] w (GetBl w bl) := by
  obtain ⟨s, hs, hopen⟩ := open_at l hl
  obtain ⟨bl, q0, hq0, hbl, hdraw⟩ := l3Draw_ex hs 0 (by omega)
  obtain ⟨bl1, q3, hq3, hb1, hw1⟩ := l3Wrong_ex hs bl 100 hbl (by omega) q0 (by omega)
  obtain ⟨bl2, q4, hq4, hb2, hw2⟩ := l3Wrong_ex hs bl1 101 hb1 (by omega) q3 (by omega)
  refine ⟨bl2, hb2, fun A c w hr hc => ?_⟩
  have HO := Lib.hid (hopen A c w w (Below.refl _ _) hr hc)
  have HDRAW := Lib.hid hdraw
  have HW1 := Lib.hid hw1
  have HW2 := Lib.hid hw2
  clear hopen hdraw hw1 hw2 hr hs hbl hb1 hb2 hq0 hq3 hq4
  go_enter Tryd.func41, Tryd.ntmps41
  go_wp2_with fail
  refine HO.out.mono ?_
  rintro e w2 ⟨g, rfl, hi, hb, hb2⟩
  have HD := Lib.hid (Dr.new hi hb)
  clear hi hb hb2
  go_wp2_with fail
  refine (HDRAW.out g w w2 HD.out.is HD.out.b).mono ?_
  rintro e w3 ⟨L_A, L_c, rfl, hbs, hi, hb, hk⟩
  have HL := Lib.hid hbs
  replace HD := Lib.hid (HD.out.call hi hb hk)
  clear hbs hi hb hk
  go_wp2_with fail
  refine (HW1.out g w w3 L_A L_c HD.out.is HD.out.b HL.out.now HL.out.le).mono ?_
  rintro e w4 ⟨M_A, M_c, rfl, hbs, hi, hb, hk⟩
  have HM := Lib.hid hbs
  replace HD := Lib.hid (HD.out.call hi hb hk)
  clear hbs hi hb hk
  go_wp2_with fail
  refine (HW2.out g w w4 M_A M_c HD.out.is HD.out.b HM.out.now HM.out.le).mono ?_
  rintro e w5 ⟨N_A, N_c, rfl, hbs, hi, hb, hk⟩
  have HN := Lib.hid hbs
  have HB := Lib.hid hb
  clear hbs hi hb hk
  go_wp2_with fail
  go_ret
  exact ⟨_, _, rfl, HN.out.le, HN.out.now, HB.out⟩
end Go.Proofs.YteeepenncddnjaaDoor
end
section
namespace Go.Proofs.YteeepenncddnjaaDoor
open Go.RowKit Go.Proofs.YteeepenncddnjaaDoorW.PrintWords Go.Proofs.YteeepenncddnjaaDoorW.PrintLast Go.Proofs.YteeepenncddnjaaDoorW.PrintMore
set_option linter.unusedVariables false
set_option linter.unusedSimpArgs false
theorem dBV (l : List Bd) {t : Bool} (h : pB (BdsOk l) = t) (hs : SmB l) (A : Option Addr) (c : Nat) (w : World) (hr : kB.C w A l.length l) (hc : l.length ≤ c) : Calls Tryd.prog 19 #[.slice A l.length c] w (Ret w (.bool t)) :=
  h ▸ implBinds_any l A c w hr hc (fun b hb => by have := (hs.2 b hb).1; omega)
theorem dSV (l : List Bd) {t : Bool} (h : pB (BdsOk l) = t) (hs : SmB l) (A : Option Addr) (c : Nat) (w : World) (hr : kB.C w A l.length l) (hc : l.length ≤ c) : Calls Tryd.prog 21 #[.slice A l.length c] w (Ret w (.bool t)) :=
  h ▸ specBinds_any l A c w hr hc hs
theorem dFI (l : List Bd) {s : ByteArray} (h : fmtB l = s) (hs : SmB l) (A : Option Addr) (c : Nat) (w : World) (hr : kB.C w A l.length l) (hc : l.length ≤ c) (htab : TabP w) : Calls Tryd.prog 18 #[.slice A l.length c] w (Ret w (.string s)) :=
  h ▸ implFormatB_any l A c w hr hc hs htab
theorem dFS (l : List Bd) {s : ByteArray} (h : fmtB l = s) (hs : SmB l) (A : Option Addr) (c : Nat) (w : World) (hr : kB.C w A l.length l) (hc : l.length ≤ c) : Calls Tryd.prog 20 #[.slice A l.length c] w (Ret w (.string s)) :=
  h ▸ specFormatB_any l A c w hr hc hs
set_option maxHeartbeats 1000000 in
theorem dDrawFormatBinds (l : List Int) (hl : ∀ z, z ∈ l → 0 ≤ z ∧ z < 256) : ∃ (bl : List Bd), SmD 102 bl ∧ ∀ (A : Option Addr) (c : Nat) (w : World), (Kd.int .u8).C w A l.length l → l.length ≤ c → Calls Tryd.prog 17 #[.slice A l.length c] w (GetBl w bl) := by
  obtain ⟨bl, hb, hd⟩ := dDrawBindsValid l hl
  refine ⟨bl, hb, fun A c w hr hc => ?_⟩
  have HC := Lib.hid (hd A c w hr hc)
  clear hd hr
  go_enter Tryd.func17, Tryd.ntmps17
  go_wp2_with fail
  refine HC.out.mono ?_
  rintro e w1 ⟨B, d, rfl, hcd, hC, hbb⟩
  have HF := Lib.hid (And.intro hcd (And.intro hC hbb))
  clear hcd hC hbb
  go_wp2_with fail
  go_ret
  exact ⟨_, _, rfl, HF.out⟩
/-! Lines -/
def nl (l : List UInt8) : Nat := l.countP (fun b => b.toNat == 10)
def cntS (s : ByteArray) (i : Nat) : Nat := nl (s.data.toList.take i)
theorem cntS_next (s : ByteArray) (i : Nat) (h : i < s.size) : cntS s (i + 1) = cntS s i + (if s[i].toNat = 10 then 1 else 0) := by
  have h' : i < s.data.toList.length := by rw [Array.length_toList]; exact h
  unfold cntS nl
  rw [List.take_succ_eq_append_getElem h', List.countP_append, List.countP_cons, List.countP_nil]
  have e : s.data.toList[i] = s[i] := rfl
  rw [e]
  simp
theorem nl_none {l : List UInt8} (h : ∀ b, b ∈ l → b.toNat ≠ 10) : nl l = 0 := by
  unfold nl
  rw [List.countP_eq_zero]
  intro b hb
  simpa using h b hb
theorem nl_line {b : Bd} (h : BdOk b) : nl (lnT b) = 1 := by
  unfold lnT nl
  have a1 : nl (nameT b.f0 b.f1) = 0 := nl_none (fun c hc => nameT_noline h.1 h.2.1 hc)
  have a2 : nl (Lib.itoa b.f2) = 0 := nl_none (fun c hc => (itoa_bytes (by have := h.2.2.1; omega) hc).2)
  unfold nl at a1 a2
  rw [List.countP_append, a1, List.countP_cons, List.countP_cons, List.countP_cons, List.countP_append, a2, List.countP_cons, List.countP_nil]
  rfl
theorem nl_binds : ∀ {l : List Bd}, (∀ b, b ∈ l → BdOk b) → nl (bindsT l) = l.length
  | [], _ => rfl
  | b :: r, h => by
    have ih := nl_binds (l := r) (fun c hc => h c (List.mem_cons_of_mem _ hc))
    have h1 := nl_line (h b List.mem_cons_self)
    unfold nl at ih h1 ⊢
    unfold bindsT at ih ⊢
    rw [List.map_cons, List.flatten_cons, List.countP_append, ih, h1, List.length_cons]
    omega
theorem fmtB_lines {l : List Bd} {s : ByteArray} (h : fmtB l = s) (hv : BdsOk l) : cntS s s.size = l.length := by
  subst h
  rw [fmtB, if_pos (pB_iff.2 hv), cntS, B8_toList, List.take_of_length_le (by rw [B8_size]; exact Nat.le_refl _)]
  refine nl_binds (fun b hb => ?_)
  obtain ⟨i, hi, rfl⟩ := List.getElem_of_mem hb
  exact bdsOk_mem hv hi
theorem fmtB_none {l : List Bd} {s : ByteArray} (h : fmtB l = s) (hv : pB (BdsOk l) = false) : (s.toList == []) = true := by
  subst h
  rw [fmtB, hv, if_neg (by simp), ByteArray.toList_eq]
  rfl
end Go.Proofs.YteeepenncddnjaaDoor
end
section
-- PRINTED WORDS (module Derived/Print/Sized.lean): go-gate-2's, for the rows of laws over slices: an AI agent of Go's test side, Tue Nov 17 2026; no person has read it. Lean checks it.
namespace Go.Proofs.YteeepenncddnjaaDoorW.PrintWords
open Go.ChangeShapes Go.WideShapes
/-- A row's slice of whole numbers is no longer than its weight allows. -/
theorem sized_ints {H : Type} {enc : TypeId × Value → H} {P : Program} {W : World} {base : Nat} {spare : Nat → Bool} {held : Bool} {t e : TypeId} {k : IntKind} {a : Option Addr} {len cap : Nat} {d : DataW H} {ps : List MemPlace} {ts : List TypeId} {ds : List (DataW H)} {j : Nat}
    (hsz : (DataW.weightsEach P ts ds).all (· ≤ reachBytes) = true) (ht : ts[j]? = some t) (hd : ds[j]? = some d) (hu : P.underlying t = some (.slice e)) (he : P.underlying e = some (.int k)) (hc : P.cellsOf e = 1) {B : Nat} (hB : P.bytesOf e = B)
    (h : DataW.Trod enc P W base spare held t (.slice a len cap) d ps) : len * B ≤ 140737488351232 := by
  obtain ⟨fuel, hf⟩ := h
  rcases open_ints hu he hc hf with ⟨hcs, _⟩ | ⟨x, l, c, zs, hcs, _, hl, _, hz, hx, _, _⟩
  · simp [Value.cells] at hcs
    obtain ⟨rfl, rfl, rfl⟩ := hcs
    simp
  · simp [Value.cells] at hcs
    obtain ⟨rfl, rfl, rfl⟩ := hcs
    obtain ⟨hx, _⟩ := Prod.mk.inj hx
    subst hx
    have z := sized_slice hsz ht hd hu
    rw [hB] at z
    have hl2 : len ≤ zs.length := by
      rw [hz]
      split
      · exact hl
      · exact Nat.le_refl _
    have h1 : (lits (H := H) k (zs.take len)).length + (lits (H := H) k (zs.drop len)).length = zs.length := by
      simp [lits]
      omega
    rw [h1] at z
    exact Nat.le_trans (Nat.mul_le_mul_right _ hl2) z
end Go.Proofs.YteeepenncddnjaaDoorW.PrintWords
end
