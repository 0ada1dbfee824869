/- Words for the laws' proofs (part 4): contracts of functions, and plain lemmas. -/
import Derived.Deep.RegionHeld3
import Derived.Test.YtcbomlmlindjdaaKd1
import Derived.Test.YtcbomlmlindjdaaKd2
import Derived.Test.YtcbomlmlindjdaaKd3
section
namespace Go.Proofs.Ytcbomlmlindjdaa.Q
open Go.RowKit Go.Proofs.YtcbomlmlindjdaaW.PrintWords Go.Proofs.YtcbomlmlindjdaaW.PrintLast Go.Proofs.YtcbomlmlindjdaaW.PrintMore
attribute [local go_sem] max2_int min2_int max_two min_two max_three min_three max_four min_four   -- for this text's walks alone
set_option linter.unusedVariables false
set_option linter.unusedSimpArgs false

noncomputable def spec_l3Fitting.l0 : Nat → List (S36) → List Int → Int → Int → ByteArray → Int → List Int → List (S30) → Option (List Int)
  | 0, _, _, _, _, _, _, _, _ => none
  | k + 1, x0, x5, x6, x236000, x236001, x236002, x236003, x236004 => if x6 < (x0.length : Int) then (if 0 ≤ x6 then (if ((rd_T36 x0 x6).f0).toList = x236001.toList then ((spec_ScopesWithin.f ((rd_T36 x0 x6).f1) x236003).bind fun t241 => (if t241 = true then (if x5.length < 17592186044416 then (spec_l3Fitting.l0 k x0 (x5 ++ [x6]) (wrap64 (x6 + 1)) x236000 x236001 x236002 x236003 x236004) else (none)) else (spec_l3Fitting.l0 k x0 x5 (wrap64 (x6 + 1)) x236000 x236001 x236002 x236003 x236004))) else (spec_l3Fitting.l0 k x0 x5 (wrap64 (x6 + 1)) x236000 x236001 x236002 x236003 x236004)) else (none)) else (some x5)
noncomputable def spec_l3Fitting.f (k : Nat) (l0 : List (S36)) (a1_0 : Int) (a1_1 : ByteArray) (a1_2 : Int) (l1_3 : List Int) (l1_4 : List (S30)) : Option (List Int) := spec_l3Fitting.l0 k l0 (([] : List Int)) 0 a1_0 a1_1 a1_2 l1_3 l1_4
theorem spec_l3Fitting.mono_l : ∀ k, (∀ y0 y1 y2 y3 y4 y5 y6 y7, LeO (spec_l3Fitting.l0 k y0 y1 y2 y3 y4 y5 y6 y7) (spec_l3Fitting.l0 (k + 1) y0 y1 y2 y3 y4 y5 y6 y7))
  | 0 => fun _ _ _ _ _ _ _ _ r h => by simp [spec_l3Fitting.l0] at h
  | k + 1 => by
    have ih0 := spec_l3Fitting.mono_l k
    · intro y0 y1 y2 y3 y4 y5 y6 y7
      unfold spec_l3Fitting.l0
      repeat' first
      | (with_reducible exact ih0 _ _ _ _ _ _ _ _)
      | (with_reducible exact LeO.refl _)
      | (with_reducible exact LeO.none _)
      | (with_reducible refine LeO.ite ?_ ?_)
      | (with_reducible refine LeO.bind ?_ (fun _ => ?_))
      | exact ih0 _ _ _ _ _ _ _ _
      | exact LeO.none _
      | refine LeO.ite ?_ ?_
      | refine LeO.bind ?_ (fun _ => ?_)
theorem spec_l3Fitting.mono : ∀ a0 a1 a2 a3 a4 a5 k, LeO (spec_l3Fitting.f k a0 a1 a2 a3 a4 a5) (spec_l3Fitting.f (k + 1) a0 a1 a2 a3 a4 a5) := by
  intro a0 a1 a2 a3 a4 a5 k
  have ih0 := spec_l3Fitting.mono_l k
  unfold spec_l3Fitting.f
  repeat' first
      | (with_reducible exact ih0 _ _ _ _ _ _ _ _)
      | (with_reducible exact LeO.refl _)
      | (with_reducible exact LeO.none _)
      | (with_reducible refine LeO.ite ?_ ?_)
      | (with_reducible refine LeO.bind ?_ (fun _ => ?_))
      | exact ih0 _ _ _ _ _ _ _ _
      | exact LeO.none _
      | refine LeO.ite ?_ ?_
      | refine LeO.bind ?_ (fun _ => ?_)
noncomputable def spec_l3Fitting.T5 : Bool × List (List Nat × List Nat) := (true, [([], []), ([], []), ([0, 1], [0, 1]), ([2], [2]), ([3], [3]), ([], []), ([5], [5]), ([4, 6], [4, 6]), ([7], [7]), ([8], [8]), ([8], [8]), ([9, 10, 8], [8, 9, 10]), ([11, 8], [8, 11]), ([12, 8], [8, 12]), ([8], [8]), ([14, 8], [8, 14]), ([13, 15, 8, 8], [8, 13, 15]), ([8, 16], [8, 16])])
noncomputable def spec_l3Fitting.B5 : List Nat := [0, 0, 3, 7, 15, 0, 32, 127, 255, 511, 511, 2047, 4095, 8191, 511, 16895, 65535, 131071]
theorem spec_l3Fitting.tab5 : rtab .any (opsOf Try.f73 5) = spec_l3Fitting.T5 := by kernel_rfl
theorem spec_l3Fitting.bits5 : waitsOk spec_l3Fitting.T5.2 spec_l3Fitting.B5 = true := by kernel_rfl
set_option maxHeartbeats 8000000 in
set_option maxRecDepth 100000 in
theorem spec_l3Fitting.calls (k : Nat) (A0 : Option Addr) (c0 : Nat) (l0 : List (S36)) (a1_0 : Int) (a1_1 : ByteArray) (a1_2 : Int) (A1_3 : Option Addr) (c1_3 : Nat) (l1_3 : List Int) (A1_4 : Option Addr) (c1_4 : Nat) (l1_4 : List (S30)) (r : List Int) (w : World) (hr0 : Kd.C k36 w A0 l0.length l0) (hc0 : l0.length ≤ c0) (hr1_3 : Kd.C (Kd.int .i64) w A1_3 l1_3.length l1_3) (hc1_3 : l1_3.length ≤ c1_3) (hr1_4 : Kd.C k30 w A1_4 l1_4.length l1_4) (hc1_4 : l1_4.length ≤ c1_4) (h : spec_l3Fitting.f k l0 a1_0 a1_1 a1_2 l1_3 l1_4 = some r) :
    Calls Try.prog 73 #[.slice A0 l0.length c0, .agg #[.int .i64 a1_0, .string a1_1, .int .i64 a1_2, .slice A1_3 l1_3.length c1_3, .slice A1_4 l1_4.length c1_4]] w fun e w' => ∃ v0_ : Value, e = .returned (v0_) ∧ Kd.R (Kd.int .i64) 3 w' w.heap.size (fun _ => True) v0_ r ∧ Below w.heap.size w w' := by
  have hu30 := Try.underlying30
  have HR0 := Aside0.mk hr0
  have HC0 := Aside0.mk hc0
  clear hr0 hc0
  have HR1_3 := Aside0.mk hr1_3
  have HC1_3 := Aside0.mk hc1_3
  clear hr1_3 hc1_3
  have HR1_4 := Aside0.mk hr1_4
  have HC1_4 := Aside0.mk hc1_4
  clear hr1_4 hc1_4
  have HB := Aside0.mk (Below.refl w.heap.size w)
  have H : (spec_l3Fitting.l0 k l0 (([] : List Int)) 0 a1_0 a1_1 a1_2 l1_3 l1_4) = some r := h
  clear h
  obtain ⟨y236, hy236⟩ : ∃ y_ : List Int, y_ = (([] : List Int)) := ⟨_, rfl⟩
  replace H : (spec_l3Fitting.l0 k l0 y236 0 a1_0 a1_1 a1_2 l1_3 l1_4) = some r := by first | (rw [hy236]; with_reducible exact H) | (have H2_ := (Option.bind_some _ _).symm.trans H; rw [hy236]; with_reducible exact H2_) | (have H2_ := (Option.bind_some _ _).symm.trans H; with_reducible exact H2_) | with_reducible exact H | (rw [hy236]; exact H) | exact H
  have Ny236 := Aside0.mk hy236
  clear hy236
  have H' := Aside0.mk H
  clear H
  go_enter Try.func73, Try.ntmps73
  go_wp2_with (first | ((with_reducible refine gate_dst (N := 3) rfl ?_); refine box_event ?hg (N := 3) ?hd (cs := #[.int .i64 a1_0, .string a1_1, .int .i64 a1_2, .slice A1_3 l1_3.length c1_3, .slice A1_4 l1_4.length c1_4]) (t := 30) ?hr ?_; (case hd => rfl); (case hg => rfl); (case hr => first | (go_simp; done) | (go_simp; rfl)); intro gb235 hg w3 hbox hb; have n0_ := Aside0.mk (below_step (by repeat (first | (with_reducible first | exact HB.out | apply below_alloc | apply pw_below_drewN | apply below_drew1) | exact HB.out)) hb); have n1_ := Aside0.mk (hbox); have n2_ := Aside0.mk ((by rw [hg]; exact (below_size (by repeat (first | (with_reducible first | exact HB.out | apply below_alloc | apply pw_below_drewN | apply below_drew1) | exact HB.out))) : w.heap.size ≤ gb235)); have n3_ := Aside0.mk ((by rw [hg]; exact (below_size (by repeat (first | (with_reducible first | exact HB.out | apply below_alloc | apply pw_below_drewN | apply below_drew1) | exact HB.out))) : w.heap.size ≤ gb235)); clear HB; have HB := n0_; have BK235 := n1_; have GW235 := n2_; have GE235 := n3_; clear n0_ n1_ n2_ n3_; clear hb hbox hg) | ((with_reducible refine gate_dst (N := 7) rfl ?_); refine Kd.R_lit (Kd.int .i64) _ 3 ?hg (N := 7) ?hd (xs := ([] : List Int)) (inner := []) (ok := fun _ => True) (okp := fun _ => True) ?hr ?hp (fun _ hk => hk) trivial (Below.refl _ _) (Nat.le_refl _) (by simp) ?_; (case hd => rfl); (case hg => rfl); (case hr => first | (go_simp; done) | (go_simp; rfl)); (case hp => exact (Reps.none _ _)); intro v237 w4 ho5 hb hg_ hnew_; clear hg_ hnew_; (first | rw [← Ny236.out] at ho5 | (simp only [Int.reduceToNat] at ho5; rw [← Ny236.out] at ho5)); have n0_ := Aside0.mk (Kd.R_lower ho5 (below_size (by repeat (first | (with_reducible first | exact HB.out | apply below_alloc | apply pw_below_drewN | apply below_drew1 | refine below_set ?_ GE235.out) | exact HB.out)))); have n1_ := Aside0.mk (blk_below (g := gb235) (o := .cells #[.int .i64 a1_0, .string a1_1, .int .i64 a1_2, .slice A1_3 l1_3.length c1_3, .slice A1_4 l1_4.length c1_4] 30 (0, 0)) (by (with_reducible repeat (first | refine blk_drewN ?_ _ | refine blk_drew ?_ | refine blk_alloc ?_ _)); exact BK235.out) hb); have n2_ := Aside0.mk (below_step (by repeat (first | (with_reducible first | exact HB.out | apply below_alloc | apply pw_below_drewN | apply below_drew1 | refine below_set ?_ GE235.out) | exact HB.out)) hb); clear BK235; clear HB; have HO238 := n0_; have BK235 := n1_; have HB := n2_; clear n0_ n1_ n2_; clear hb ho5))
  go_loopg [5, 6] k (fun kq v5 v6 w' => ∃ (x5_1 : List Int) (x6_1 : Int), v6 = .int .i64 x6_1 ∧ Aside0 (spec_l3Fitting.l0 kq l0 x5_1 x6_1 a1_0 a1_1 a1_2 l1_3 l1_4 = some r) ∧ Aside0 (kq ≤ k) ∧ Aside0 (Kd.R (Kd.int .i64) 3 w' w.heap.size (fun _ => True) v5 x5_1) ∧ Aside0 (w'.heap[gb235]? = some (.cells #[.int .i64 a1_0, .string a1_1, .int .i64 a1_2, (.slice A1_3 l1_3.length c1_3), (.slice A1_4 l1_4.length c1_4)] 30 (0, 0))) ∧ Aside0 (Below w.heap.size w w'))
  case atStart => exact ⟨(y236), (0), (by first | rfl | (simp; done) | (simp [*]; done)), H', ⟨Nat.le_refl _⟩, ⟨by (with_reducible repeat (first | apply Kd.R_alloc | apply Kd.R_drewN | apply Kd.R_drew)); exact HO238.out⟩, ⟨by (with_reducible repeat (first | refine blk_drewN ?_ _ | refine blk_drew ?_ | refine blk_alloc ?_ _)); exact BK235.out⟩, ⟨by repeat (first | (with_reducible first | exact HB.out | apply below_alloc | apply pw_below_drewN | apply below_drew1 | refine below_set ?_ GE235.out) | exact HB.out)⟩⟩
  case round =>
    clear H'
    try clear c1
    try clear p2
    obtain ⟨x5_1, x6_1, rfl, HA, HK1, HO_5, BK235, HB⟩ := hrel
    cases gk with
    | zero => exact absurd HA.out (by simp [spec_l3Fitting.l0])
    | succ k1 =>
      have H := HA.out
      clear HA
      simp only [spec_l3Fitting.l0] at H
      by_cases c6 : x6_1 < (l0.length : Int)
      · rw [if_pos c6] at H
        have c6b0 : decide (x6_1 < (l0.length : Int)) = true := decide_eq_true c6
        clear c6
        by_cases c7 : 0 ≤ x6_1
        · rw [if_pos c7] at H
          have c7b0 : decide (0 ≤ x6_1) = true := decide_eq_true c7
          clear c7
          by_cases c8 : ((rd_T36 l0 x6_1).f0).toList = a1_1.toList
          · rw [if_pos c8] at H
            have c8b0 : (((rd_T36 l0 x6_1).f0).toList == a1_1.toList) = true := beq_iff_eq.mpr c8
            have c8b1 : (((rd_T36 l0 x6_1).f0).toList != a1_1.toList) = false := bne_eq_false_iff_eq.mpr c8
            clear c8
            replace H := Option.bind_eq_some_iff.mp H
            obtain ⟨t241, A90, H⟩ := H
            replace H : (if t241 = true then (if x5_1.length < 17592186044416 then (spec_l3Fitting.l0 k1 l0 (x5_1 ++ [x6_1]) (wrap64 (x6_1 + 1)) a1_0 a1_1 a1_2 l1_3 l1_4) else (none)) else (spec_l3Fitting.l0 k1 l0 x5_1 (wrap64 (x6_1 + 1)) a1_0 a1_1 a1_2 l1_3 l1_4)) = some r := H
            have A9 := Aside0.mk A90
            clear A90
            by_cases c10 : t241 = true
            · subst c10
              have H1 : (if x5_1.length < 17592186044416 then (spec_l3Fitting.l0 k1 l0 (x5_1 ++ [x6_1]) (wrap64 (x6_1 + 1)) a1_0 a1_1 a1_2 l1_3 l1_4) else (none)) = some r := by rw [if_pos rfl] at H; exact H
              clear H
              have H := H1
              clear H1
              by_cases c11 : x5_1.length < 17592186044416
              · rw [if_pos c11] at H
                have LMc11 := Aside0.mk c11
                clear c11
                obtain ⟨y242, hy242⟩ : ∃ y_ : List Int, y_ = (x5_1 ++ [x6_1]) := ⟨_, rfl⟩
                replace H : (spec_l3Fitting.l0 k1 l0 y242 (wrap64 (x6_1 + 1)) a1_0 a1_1 a1_2 l1_3 l1_4) = some r := by first | (rw [hy242]; with_reducible exact H) | (have H2_ := (Option.bind_some _ _).symm.trans H; rw [hy242]; with_reducible exact H2_) | (have H2_ := (Option.bind_some _ _).symm.trans H; with_reducible exact H2_) | with_reducible exact H | (rw [hy242]; exact H) | exact H
                have Ny242 := Aside0.mk hy242
                clear hy242
                have H' := Aside0.mk H
                clear H
                try go_wp2
                have n0_ := Aside0.mk (Kd.R_drew HO_5.out)
                have n1_ := Aside0.mk (blk_drew BK235.out)
                have n2_ := Aside0.mk (below_drew1 HB.out)
                clear HO_5
                clear BK235
                clear HB
                have HO_5 := n0_
                have BK235 := n1_
                have HB := n2_
                clear n0_ n1_ n2_
                have p239 : 0 ≤ (x6_1 : Int) := of_decide_eq_true (by first | (with_reducible assumption) | assumption)
                have q239 : x6_1 < (l0.length : Int) := of_decide_eq_true (by first | (with_reducible assumption) | assumption)
                obtain ⟨ad239, A239_1, c239_1, e239, hx239_0, hx239_1, hx239_2, hl239_1, hi239_1⟩ := at_T36 HR0.out x6_1 p239 q239
                have hw239_2 := hx239_2
                have hw239_1 := hx239_1
                have hw239_0 := hx239_0
                cases e239
                replace hx239_0 := (HB.out.cell (World.block_lt_of_cell? w _ hx239_0)).trans hx239_0
                replace hx239_1 := (HB.out.cell (World.block_lt_of_cell? w _ hx239_1)).trans hx239_1
                replace hx239_2 := (HB.out.cell (World.block_lt_of_cell? w _ hx239_2)).trans hx239_2
                have HR239_1 := Aside0.mk hi239_1
                have HC239_1 := Aside0.mk hl239_1
                clear hi239_1 hl239_1
                replace p239 := eq_true p239
                replace q239 := eq_true q239
                have p240 : 0 ≤ (x6_1 : Int) := of_decide_eq_true (by first | (with_reducible assumption) | assumption)
                have q240 : x6_1 < (l0.length : Int) := of_decide_eq_true (by first | (with_reducible assumption) | assumption)
                obtain ⟨ad240, A240_1, c240_1, e240, hx240_0, hx240_1, hx240_2, hl240_1, hi240_1⟩ := at_T36 HR0.out x6_1 p240 q240
                have hw240_2 := hx240_2
                have hw240_1 := hx240_1
                have hw240_0 := hx240_0
                obtain rfl : ad239 = ad240 := (by injection e240)
                replace hx240_0 := (HB.out.cell (World.block_lt_of_cell? w _ hx240_0)).trans hx240_0
                replace hx240_1 := (HB.out.cell (World.block_lt_of_cell? w _ hx240_1)).trans hx240_1
                replace hx240_2 := (HB.out.cell (World.block_lt_of_cell? w _ hx240_2)).trans hx240_2
                have HR240_1 := Aside0.mk hi240_1
                have HC240_1 := Aside0.mk hl240_1
                clear hi240_1 hl240_1
                replace p240 := eq_true p240
                replace q240 := eq_true q240
                have ea_ := Option.some.inj (hx239_1.symm.trans hx240_1)
                injection ea_ with ea_ en_ ec_
                subst ea_
                subst ec_
                clear en_
                refine start_ (n := 18) (S := fun w' => w'.cell? ⟨gb235, 0, none⟩ = some (.int .i64 a1_0) ∧ w'.cell? ⟨gb235, 1, none⟩ = some (.string a1_1) ∧ w'.cell? ⟨gb235, 2, none⟩ = some (.int .i64 a1_2) ∧ w'.cell? ⟨gb235, 3, none⟩ = some (.slice A1_3 l1_3.length c1_3) ∧ w'.cell? ⟨gb235, 4, none⟩ = some (.slice A1_4 l1_4.length c1_4) ∧ w'.cell? (ad239.add ((x6_1).toNat * 3)) = some (.string ((rd_T36 l0 x6_1).f0)) ∧ w'.cell? ⟨(ad239.add ((x6_1).toNat * 3)).block, (ad239.add ((x6_1).toNat * 3)).off + 1, none⟩ = some (.slice A239_1 ((rd_T36 l0 x6_1).f1).length c239_1) ∧ w'.cell? ⟨(ad239.add ((x6_1).toNat * 3)).block, (ad239.add ((x6_1).toNat * 3)).off + 2, none⟩ = some (.int .i64 ((rd_T36 l0 x6_1).f2)) ∧ w'.cell? (ad239.add ((x6_1).toNat * 3)) = some (.string ((rd_T36 l0 x6_1).f0)) ∧ w'.cell? ⟨(ad239.add ((x6_1).toNat * 3)).block, (ad239.add ((x6_1).toNat * 3)).off + 1, none⟩ = some (.slice A239_1 ((rd_T36 l0 x6_1).f1).length c239_1) ∧ w'.cell? ⟨(ad239.add ((x6_1).toNat * 3)).block, (ad239.add ((x6_1).toNat * 3)).off + 2, none⟩ = some (.int .i64 ((rd_T36 l0 x6_1).f2))) (ds := []) #[false, false, false, false, false, false, false, false, false, false, false, false, false, false, false, false, false, false] (by kernel_rfl) rfl rfl ⟨(blk_cell BK235.out 0).trans rfl, (blk_cell BK235.out 1).trans rfl, (blk_cell BK235.out 2).trans rfl, (blk_cell BK235.out 3).trans rfl, (blk_cell BK235.out 4).trans rfl, ((HB.out.cell (World.block_lt_of_cell? w _ hw239_0)).trans hw239_0), ((HB.out.cell (World.block_lt_of_cell? w _ hw239_1)).trans hw239_1), ((HB.out.cell (World.block_lt_of_cell? w _ hw239_2)).trans hw239_2), ((HB.out.cell (World.block_lt_of_cell? w _ hw240_0)).trans hw240_0), ((HB.out.cell (World.block_lt_of_cell? w _ hw240_1)).trans hw240_1), ((HB.out.cell (World.block_lt_of_cell? w _ hw240_2)).trans hw240_2)⟩ (fun hHeld => ?_); refine with_tabW spec_l3Fitting.tab5 spec_l3Fitting.bits5 (fun HT_ HW_ => ?_)
                generalize wr.drew = w12 at HO_5 BK235 HB HR239_1 HR240_1 hx239_0 hx239_1 hx239_2 hx240_0 hx240_1 hx240_2 hHeld ⊢
                refine pure_ (i := 0) (N := some 14) (v := ?_) (a' := ?_) #[true, false, false, false, false, false, false, false, false, false, false, false, false, false, false, false, false, false] rfl rfl (any_of HT_.out (by kernel_rfl)) (fun _ _ _ h => h) (Or.inl ⟨by rfl, ?_⟩) ?_ ?_
                rotate_left
                · intro w'
                  go_simp
                  with_reducible rfl
                rotate_left
                · simp only [Act.put, List.setIfInBounds_toArray, List.set_cons_zero, List.set_cons_succ, i64_w, i32_w]
                  rfl
                refine pure_ (i := 1) (N := some 15) (v := ?_) (a' := ?_) #[true, true, false, false, false, false, false, false, false, false, false, false, false, false, false, false, false, false] rfl rfl (any_of HT_.out (by kernel_rfl)) (fun _ _ _ h => h) (Or.inl ⟨by rfl, ?_⟩) ?_ ?_
                rotate_left
                · intro w'
                  go_simp
                  with_reducible rfl
                rotate_left
                · simp only [Act.put, List.setIfInBounds_toArray, List.set_cons_zero, List.set_cons_succ, i64_w, i32_w]
                  rfl
                refine pure_ (i := 2) (N := some 16) (v := ?_) (a' := ?_) #[true, true, true, false, false, false, false, false, false, false, false, false, false, false, false, false, false, false] rfl rfl (any_of HT_.out (by kernel_rfl)) (fun _ _ _ h => h) (Or.inl ⟨by rfl, ?_⟩) ?_ ?_
                rotate_left
                · intro w'
                  go_simp
                  with_reducible rfl
                rotate_left
                · simp only [Act.put, List.setIfInBounds_toArray, List.set_cons_zero, List.set_cons_succ, i64_w, i32_w]
                  rfl
                refine pure_ (i := 3) (N := some 17) (v := ?_) (a' := ?_) #[true, true, true, true, false, false, false, false, false, false, false, false, false, false, false, false, false, false] rfl rfl (any_of HT_.out (by kernel_rfl)) (fun _ _ _ h => h) (Or.inl ⟨by rfl, ?_⟩) ?_ ?_
                rotate_left
                · intro w'
                  go_simp
                  with_reducible rfl
                rotate_left
                · simp only [Act.put, List.setIfInBounds_toArray, List.set_cons_zero, List.set_cons_succ, i64_w, i32_w]
                  rfl
                refine pure_ (i := 5) (N := some 19) (v := ?_) (a' := ?_) #[true, true, true, true, false, true, false, false, false, false, false, false, false, false, false, false, false, false] rfl rfl (any_of HT_.out (by kernel_rfl)) (fun _ _ _ h => h) (Or.inl ⟨by rfl, ?_⟩) ?_ ?_
                rotate_left
                · intro w'
                  go_simp
                  with_reducible rfl
                rotate_left
                · simp only [Act.put, List.setIfInBounds_toArray, List.set_cons_zero, List.set_cons_succ, i64_w, i32_w]
                  rfl
                refine take_ (i := 4) (N := some 18) (v := ?_) (a' := ?_) #[true, true, true, true, true, true, false, false, false, false, false, false, false, false, false, false, false, false] rfl rfl (take_ofW HT_.out HW_.out (by kernel_rfl)) (fun _ _ _ h => h) (Or.inl ⟨by rfl, ?_⟩) hHeld ?_ ?_
                rotate_left
                · rintro w' ⟨s0, s1, s2, s3, s4, s5, s6, s7, s8, s9, s10⟩
                  go_simp
                  with_reducible rfl
                rotate_left
                · simp only [Act.put, List.setIfInBounds_toArray, List.set_cons_zero, List.set_cons_succ, i64_w, i32_w]
                  rfl
                refine take_ (i := 6) (N := some 20) (v := ?_) (a' := ?_) #[true, true, true, true, true, true, true, false, false, false, false, false, false, false, false, false, false, false] rfl rfl (take_ofW HT_.out HW_.out (by kernel_rfl)) (fun _ _ _ h => h) (Or.inl ⟨by rfl, ?_⟩) hHeld ?_ ?_
                rotate_left
                · rintro w' ⟨s0, s1, s2, s3, s4, s5, s6, s7, s8, s9, s10⟩
                  go_simp
                  with_reducible rfl
                rotate_left
                · simp only [Act.put, List.setIfInBounds_toArray, List.set_cons_zero, List.set_cons_succ, i64_w, i32_w]
                  rfl
                refine pure_ (i := 7) (N := some 21) (v := ?_) (a' := ?_) #[true, true, true, true, true, true, true, true, false, false, false, false, false, false, false, false, false, false] rfl rfl (any_of HT_.out (by kernel_rfl)) (fun _ _ _ h => h) (Or.inl ⟨by rfl, ?_⟩) ?_ ?_
                rotate_left
                · intro w'
                  go_simp
                  with_reducible rfl
                rotate_left
                · simp only [Act.put, List.setIfInBounds_toArray, List.set_cons_zero, List.set_cons_succ, i64_w, i32_w]
                  rfl
                refine pure_ (i := 8) (N := some 22) (v := ?_) (a' := ?_) #[true, true, true, true, true, true, true, true, true, false, false, false, false, false, false, false, false, false] rfl rfl (any_of HT_.out (by kernel_rfl)) (fun _ _ _ h => h) (Or.inl ⟨by rfl, ?_⟩) ?_ ?_
                rotate_left
                · intro w'
                  go_simp
                  with_reducible rfl
                rotate_left
                · simp only [Act.put, List.setIfInBounds_toArray, List.set_cons_zero, List.set_cons_succ, i64_w, i32_w]
                  rfl
                refine pure_ (i := 9) (N := some 23) (v := ?_) (a' := ?_) #[true, true, true, true, true, true, true, true, true, true, false, false, false, false, false, false, false, false] rfl rfl (any_of HT_.out (by kernel_rfl)) (fun _ _ _ h => h) (Or.inl ⟨by rfl, ?_⟩) ?_ ?_
                rotate_left
                · intro w'
                  go_simp
                  with_reducible rfl
                rotate_left
                · simp only [Act.put, List.setIfInBounds_toArray, List.set_cons_zero, List.set_cons_succ, i64_w, i32_w]
                  rfl
                refine pure_ (i := 10) (N := some 24) (v := ?_) (a' := ?_) #[true, true, true, true, true, true, true, true, true, true, true, false, false, false, false, false, false, false] rfl rfl (any_of HT_.out (by kernel_rfl)) (fun _ _ _ h => h) (Or.inl ⟨by rfl, ?_⟩) ?_ ?_
                rotate_left
                · intro w'
                  go_simp
                  with_reducible rfl
                rotate_left
                · simp only [Act.put, List.setIfInBounds_toArray, List.set_cons_zero, List.set_cons_succ, i64_w, i32_w]
                  rfl
                refine pure_ (i := 11) (N := some 25) (v := ?_) (a' := ?_) #[true, true, true, true, true, true, true, true, true, true, true, true, false, false, false, false, false, false] rfl rfl (any_of HT_.out (by kernel_rfl)) (fun _ _ _ h => h) (Or.inl ⟨by rfl, ?_⟩) ?_ ?_
                rotate_left
                · intro w'
                  go_simp
                  with_reducible rfl
                rotate_left
                · simp only [Act.put, List.setIfInBounds_toArray, List.set_cons_zero, List.set_cons_succ, i64_w, i32_w]
                  rfl
                refine pure_ (i := 12) (N := some 26) (v := ?_) (a' := ?_) #[true, true, true, true, true, true, true, true, true, true, true, true, true, false, false, false, false, false] rfl rfl (any_of HT_.out (by kernel_rfl)) (fun _ _ _ h => h) (Or.inl ⟨by rfl, ?_⟩) ?_ ?_
                rotate_left
                · intro w'
                  go_simp
                  with_reducible rfl
                rotate_left
                · simp only [Act.put, List.setIfInBounds_toArray, List.set_cons_zero, List.set_cons_succ, i64_w, i32_w]
                  rfl
                refine pure_ (i := 14) (N := some 28) (v := ?_) (a' := ?_) #[true, true, true, true, true, true, true, true, true, true, true, true, true, false, true, false, false, false] rfl rfl (any_of HT_.out (by kernel_rfl)) (fun _ _ _ h => h) (Or.inl ⟨by rfl, ?_⟩) ?_ ?_
                rotate_left
                · intro w'
                  go_simp
                  with_reducible rfl
                rotate_left
                · simp only [Act.put, List.setIfInBounds_toArray, List.set_cons_zero, List.set_cons_succ, i64_w, i32_w]
                  rfl
                refine take_ (i := 13) (N := some 27) (v := ?_) (a' := ?_) #[true, true, true, true, true, true, true, true, true, true, true, true, true, true, true, false, false, false] rfl rfl (take_ofW HT_.out HW_.out (by kernel_rfl)) (fun _ _ _ h => h) (Or.inl ⟨by rfl, ?_⟩) hHeld ?_ ?_
                rotate_left
                · rintro w' ⟨s0, s1, s2, s3, s4, s5, s6, s7, s8, s9, s10⟩
                  go_simp
                  with_reducible rfl
                rotate_left
                · simp only [Act.put, List.setIfInBounds_toArray, List.set_cons_zero, List.set_cons_succ, i64_w, i32_w]
                  rfl
                refine take_ (i := 15) (N := some 29) (v := ?_) (a' := ?_) #[true, true, true, true, true, true, true, true, true, true, true, true, true, true, true, true, false, false] rfl rfl (take_ofW HT_.out HW_.out (by kernel_rfl)) (fun _ _ _ h => h) (Or.inl ⟨by rfl, ?_⟩) hHeld ?_ ?_
                rotate_left
                · rintro w' ⟨s0, s1, s2, s3, s4, s5, s6, s7, s8, s9, s10⟩
                  go_simp
                  with_reducible rfl
                rotate_left
                · simp only [Act.put, List.setIfInBounds_toArray, List.set_cons_zero, List.set_cons_succ, i64_w, i32_w]
                  rfl
                refine one_ (i := 16) (N := some 30) #[true, true, true, true, true, true, true, true, true, true, true, true, true, true, true, true, true, false] rfl rfl (one_of HT_.out (by kernel_rfl)) (by decide) (fun K hK => ?_)
                refine goes_ Try.func83 (by kernel_rfl) rfl #[.slice A239_1 ((rd_T36 l0 x6_1).f1).length c239_1, .slice A1_3 l1_3.length c1_3] (by rfl) rfl rfl (by (try simp only [List.map_toArray, List.map_cons, List.map_nil]); first | done | rfl | (simp only [List.length_drop, List.length_take]; rfl)) ?_
                with_reducible refine (spec_ScopesWithin.calls _ _ ((rd_T36 l0 x6_1).f1) _ _ l1_3 true _ ?side1 ?side2 ?side3 ?side4 A9.out).mono ?_
                (case side1 => repeat (first | exact (Kd.C_below HR240_1.out HB.out) | (with_reducible refine Kd.C_alloc ?_ _) | (with_reducible refine Kd.C_drewN ?_ _) | (with_reducible refine Kd.C_drew ?_)))
                (case side2 => exact HC240_1.out)
                (case side3 => repeat (first | exact (Kd.C_below HR1_3.out HB.out) | (with_reducible refine Kd.C_alloc ?_ _) | (with_reducible refine Kd.C_drewN ?_ _) | (with_reducible refine Kd.C_drew ?_)))
                (case side4 => exact HC1_3.out)
                rintro e w13 ⟨rfl, hb⟩
                refine ⟨_, rfl, ?_⟩
                have n0_ := Aside0.mk (Kd.R_below (by (with_reducible repeat (first | apply Kd.R_alloc | apply Kd.R_drewN | apply Kd.R_drew)); exact HO_5.out) hb)
                have n1_ := Aside0.mk (blk_below (g := gb235) (o := .cells #[.int .i64 a1_0, .string a1_1, .int .i64 a1_2, .slice A1_3 l1_3.length c1_3, .slice A1_4 l1_4.length c1_4] 30 (0, 0)) (by (with_reducible repeat (first | refine blk_drewN ?_ _ | refine blk_drew ?_ | refine blk_alloc ?_ _)); exact BK235.out) hb)
                have n2_ := Aside0.mk (below_step (by repeat (first | (with_reducible first | exact HB.out | apply below_alloc | apply pw_below_drewN | apply below_drew1 | refine below_set ?_ GE235.out) | exact HB.out)) hb)
                clear HO_5
                clear BK235
                clear HB
                have HO_5 := n0_
                have BK235 := n1_
                have HB := n2_
                clear n0_ n1_ n2_
                (try clear hb)
                (try clear hb2)
                (try clear hk)
                (try clear hi)
                refine hK.out _ _ ⟨(blk_cell BK235.out 0).trans rfl, (blk_cell BK235.out 1).trans rfl, (blk_cell BK235.out 2).trans rfl, (blk_cell BK235.out 3).trans rfl, (blk_cell BK235.out 4).trans rfl, ((HB.out.cell (World.block_lt_of_cell? w _ hw239_0)).trans hw239_0), ((HB.out.cell (World.block_lt_of_cell? w _ hw239_1)).trans hw239_1), ((HB.out.cell (World.block_lt_of_cell? w _ hw239_2)).trans hw239_2), ((HB.out.cell (World.block_lt_of_cell? w _ hw240_0)).trans hw240_0), ((HB.out.cell (World.block_lt_of_cell? w _ hw240_1)).trans hw240_1), ((HB.out.cell (World.block_lt_of_cell? w _ hw240_2)).trans hw240_2)⟩ (fun hHeld => ?_)
                clear hK K
                refine norm_ (a' := ?_) ?_ ?_
                rotate_left
                · show Act.put _ (some 30) _ = _
                  simp only [Act.put, List.setIfInBounds_toArray, List.set_cons_zero, List.set_cons_succ, i64_w, i32_w]
                  rfl
                refine pure_ (i := 17) (N := some 31) (v := ?_) (a' := ?_) #[true, true, true, true, true, true, true, true, true, true, true, true, true, true, true, true, true, true] rfl rfl (any_of HT_.out (by kernel_rfl)) (fun _ _ _ h => h) (Or.inl ⟨by rfl, ?_⟩) ?_ ?_
                rotate_left
                · intro w'
                  go_simp
                  with_reducible rfl
                rotate_left
                · simp only [Act.put, List.setIfInBounds_toArray, List.set_cons_zero, List.set_cons_succ, i64_w, i32_w]
                  rfl
                refine done_ (done_of HT_.out (by kernel_rfl)) ?_
                try go_wp2_with (first | ((with_reducible refine gate_builtin (b := .append) (xs := #[.tmp 32, .tmp 34]) rfl ?_); at_builtin; refine Kd.R_append (Kd.int .i64) (w0 := w) w.heap.size rfl (.tmp 32) (.tmp 34) 27 3 (.int .i64 0) 8 rfl Try.underlying27 info3 rfl (by decide) (by omega) u5 x5_1 x6_1 [.int .i64 x6_1] (fun _ => True) (fun _ => False) rfl rfl ?aP (fun _ hk => hk.elim) ?aF ?aO ?aB ?aS ?aL ?_; (case aP => exact rfl); (case aB => exact (by repeat (first | (with_reducible first | exact HB.out | apply below_alloc | apply pw_below_drewN | apply below_drew1 | refine below_set ?_ GE235.out) | exact HB.out))); (case aF => exact (fun _ _ => trivial)); (case aO => exact (by (with_reducible repeat (first | apply Kd.R_alloc | apply Kd.R_drewN | apply Kd.R_drew)); exact HO_5.out)); (case aS => exact (below_size (by repeat (first | (with_reducible first | exact HB.out | apply below_alloc | apply pw_below_drewN | apply below_drew1 | refine below_set ?_ GE235.out) | exact HB.out)))); (case aL => have := LMc11.out; omega); intro v243 w14 ho hb hg hat; rw [← Ny242.out] at ho; have n0_ := Aside0.mk (blk_grown (g := gb235) (o := .cells #[.int .i64 a1_0, .string a1_1, .int .i64 a1_2, .slice A1_3 l1_3.length c1_3, .slice A1_4 l1_4.length c1_4] 30 (0, 0)) (by (with_reducible repeat (first | refine blk_drewN ?_ _ | refine blk_drew ?_ | refine blk_alloc ?_ _)); exact BK235.out) hg (Kd.R_ne HO_5.out BK235.out (by decide))); have n1_ := Aside0.mk (hb); have n2_ := Aside0.mk (ho); clear BK235; clear HB; clear HO_5; have BK235 := n0_; have HB := n1_; have HO244 := n2_; clear n0_ n1_ n2_; clear ho hb hg hat))
                go_roundg k1
                case measure => have := HK1.out; omega
                case rel => exact ⟨(y242), (wrap64 (x6_1 + 1)), (by first | rfl | (simp; done) | (simp [*]; done)), H', ⟨by have := HK1.out; omega⟩, ⟨by (with_reducible repeat (first | apply Kd.R_alloc | apply Kd.R_drewN | apply Kd.R_drew)); exact HO244.out⟩, ⟨by (with_reducible repeat (first | refine blk_drewN ?_ _ | refine blk_drew ?_ | refine blk_alloc ?_ _)); exact BK235.out⟩, ⟨by repeat (first | (with_reducible first | exact HB.out | apply below_alloc | apply pw_below_drewN | apply below_drew1 | refine below_set ?_ GE235.out) | exact HB.out)⟩⟩
              · rw [if_neg c11] at H
                exact absurd H (by simp)
            · replace c10 := Bool.eq_false_iff.mpr c10
              subst c10
              have H1 : (spec_l3Fitting.l0 k1 l0 x5_1 (wrap64 (x6_1 + 1)) a1_0 a1_1 a1_2 l1_3 l1_4) = some r := by rw [if_neg (show ¬ (false = true) by decide)] at H; exact H
              clear H
              have H := H1
              clear H1
              have H' := Aside0.mk H
              clear H
              try go_wp2
              have n0_ := Aside0.mk (Kd.R_drew HO_5.out)
              have n1_ := Aside0.mk (blk_drew BK235.out)
              have n2_ := Aside0.mk (below_drew1 HB.out)
              clear HO_5
              clear BK235
              clear HB
              have HO_5 := n0_
              have BK235 := n1_
              have HB := n2_
              clear n0_ n1_ n2_
              have p239 : 0 ≤ (x6_1 : Int) := of_decide_eq_true (by first | (with_reducible assumption) | assumption)
              have q239 : x6_1 < (l0.length : Int) := of_decide_eq_true (by first | (with_reducible assumption) | assumption)
              obtain ⟨ad239, A239_1, c239_1, e239, hx239_0, hx239_1, hx239_2, hl239_1, hi239_1⟩ := at_T36 HR0.out x6_1 p239 q239
              have hw239_2 := hx239_2
              have hw239_1 := hx239_1
              have hw239_0 := hx239_0
              cases e239
              replace hx239_0 := (HB.out.cell (World.block_lt_of_cell? w _ hx239_0)).trans hx239_0
              replace hx239_1 := (HB.out.cell (World.block_lt_of_cell? w _ hx239_1)).trans hx239_1
              replace hx239_2 := (HB.out.cell (World.block_lt_of_cell? w _ hx239_2)).trans hx239_2
              have HR239_1 := Aside0.mk hi239_1
              have HC239_1 := Aside0.mk hl239_1
              clear hi239_1 hl239_1
              replace p239 := eq_true p239
              replace q239 := eq_true q239
              have p240 : 0 ≤ (x6_1 : Int) := of_decide_eq_true (by first | (with_reducible assumption) | assumption)
              have q240 : x6_1 < (l0.length : Int) := of_decide_eq_true (by first | (with_reducible assumption) | assumption)
              obtain ⟨ad240, A240_1, c240_1, e240, hx240_0, hx240_1, hx240_2, hl240_1, hi240_1⟩ := at_T36 HR0.out x6_1 p240 q240
              have hw240_2 := hx240_2
              have hw240_1 := hx240_1
              have hw240_0 := hx240_0
              obtain rfl : ad239 = ad240 := (by injection e240)
              replace hx240_0 := (HB.out.cell (World.block_lt_of_cell? w _ hx240_0)).trans hx240_0
              replace hx240_1 := (HB.out.cell (World.block_lt_of_cell? w _ hx240_1)).trans hx240_1
              replace hx240_2 := (HB.out.cell (World.block_lt_of_cell? w _ hx240_2)).trans hx240_2
              have HR240_1 := Aside0.mk hi240_1
              have HC240_1 := Aside0.mk hl240_1
              clear hi240_1 hl240_1
              replace p240 := eq_true p240
              replace q240 := eq_true q240
              have ea_ := Option.some.inj (hx239_1.symm.trans hx240_1)
              injection ea_ with ea_ en_ ec_
              subst ea_
              subst ec_
              clear en_
              refine start_ (n := 18) (S := fun w' => w'.cell? ⟨gb235, 0, none⟩ = some (.int .i64 a1_0) ∧ w'.cell? ⟨gb235, 1, none⟩ = some (.string a1_1) ∧ w'.cell? ⟨gb235, 2, none⟩ = some (.int .i64 a1_2) ∧ w'.cell? ⟨gb235, 3, none⟩ = some (.slice A1_3 l1_3.length c1_3) ∧ w'.cell? ⟨gb235, 4, none⟩ = some (.slice A1_4 l1_4.length c1_4) ∧ w'.cell? (ad239.add ((x6_1).toNat * 3)) = some (.string ((rd_T36 l0 x6_1).f0)) ∧ w'.cell? ⟨(ad239.add ((x6_1).toNat * 3)).block, (ad239.add ((x6_1).toNat * 3)).off + 1, none⟩ = some (.slice A239_1 ((rd_T36 l0 x6_1).f1).length c239_1) ∧ w'.cell? ⟨(ad239.add ((x6_1).toNat * 3)).block, (ad239.add ((x6_1).toNat * 3)).off + 2, none⟩ = some (.int .i64 ((rd_T36 l0 x6_1).f2)) ∧ w'.cell? (ad239.add ((x6_1).toNat * 3)) = some (.string ((rd_T36 l0 x6_1).f0)) ∧ w'.cell? ⟨(ad239.add ((x6_1).toNat * 3)).block, (ad239.add ((x6_1).toNat * 3)).off + 1, none⟩ = some (.slice A239_1 ((rd_T36 l0 x6_1).f1).length c239_1) ∧ w'.cell? ⟨(ad239.add ((x6_1).toNat * 3)).block, (ad239.add ((x6_1).toNat * 3)).off + 2, none⟩ = some (.int .i64 ((rd_T36 l0 x6_1).f2))) (ds := []) #[false, false, false, false, false, false, false, false, false, false, false, false, false, false, false, false, false, false] (by kernel_rfl) rfl rfl ⟨(blk_cell BK235.out 0).trans rfl, (blk_cell BK235.out 1).trans rfl, (blk_cell BK235.out 2).trans rfl, (blk_cell BK235.out 3).trans rfl, (blk_cell BK235.out 4).trans rfl, ((HB.out.cell (World.block_lt_of_cell? w _ hw239_0)).trans hw239_0), ((HB.out.cell (World.block_lt_of_cell? w _ hw239_1)).trans hw239_1), ((HB.out.cell (World.block_lt_of_cell? w _ hw239_2)).trans hw239_2), ((HB.out.cell (World.block_lt_of_cell? w _ hw240_0)).trans hw240_0), ((HB.out.cell (World.block_lt_of_cell? w _ hw240_1)).trans hw240_1), ((HB.out.cell (World.block_lt_of_cell? w _ hw240_2)).trans hw240_2)⟩ (fun hHeld => ?_); refine with_tabW spec_l3Fitting.tab5 spec_l3Fitting.bits5 (fun HT_ HW_ => ?_)
              generalize wr.drew = w15 at HO_5 BK235 HB HR239_1 HR240_1 hx239_0 hx239_1 hx239_2 hx240_0 hx240_1 hx240_2 hHeld ⊢
              refine pure_ (i := 0) (N := some 14) (v := ?_) (a' := ?_) #[true, false, false, false, false, false, false, false, false, false, false, false, false, false, false, false, false, false] rfl rfl (any_of HT_.out (by kernel_rfl)) (fun _ _ _ h => h) (Or.inl ⟨by rfl, ?_⟩) ?_ ?_
              rotate_left
              · intro w'
                go_simp
                with_reducible rfl
              rotate_left
              · simp only [Act.put, List.setIfInBounds_toArray, List.set_cons_zero, List.set_cons_succ, i64_w, i32_w]
                rfl
              refine pure_ (i := 1) (N := some 15) (v := ?_) (a' := ?_) #[true, true, false, false, false, false, false, false, false, false, false, false, false, false, false, false, false, false] rfl rfl (any_of HT_.out (by kernel_rfl)) (fun _ _ _ h => h) (Or.inl ⟨by rfl, ?_⟩) ?_ ?_
              rotate_left
              · intro w'
                go_simp
                with_reducible rfl
              rotate_left
              · simp only [Act.put, List.setIfInBounds_toArray, List.set_cons_zero, List.set_cons_succ, i64_w, i32_w]
                rfl
              refine pure_ (i := 2) (N := some 16) (v := ?_) (a' := ?_) #[true, true, true, false, false, false, false, false, false, false, false, false, false, false, false, false, false, false] rfl rfl (any_of HT_.out (by kernel_rfl)) (fun _ _ _ h => h) (Or.inl ⟨by rfl, ?_⟩) ?_ ?_
              rotate_left
              · intro w'
                go_simp
                with_reducible rfl
              rotate_left
              · simp only [Act.put, List.setIfInBounds_toArray, List.set_cons_zero, List.set_cons_succ, i64_w, i32_w]
                rfl
              refine pure_ (i := 3) (N := some 17) (v := ?_) (a' := ?_) #[true, true, true, true, false, false, false, false, false, false, false, false, false, false, false, false, false, false] rfl rfl (any_of HT_.out (by kernel_rfl)) (fun _ _ _ h => h) (Or.inl ⟨by rfl, ?_⟩) ?_ ?_
              rotate_left
              · intro w'
                go_simp
                with_reducible rfl
              rotate_left
              · simp only [Act.put, List.setIfInBounds_toArray, List.set_cons_zero, List.set_cons_succ, i64_w, i32_w]
                rfl
              refine pure_ (i := 5) (N := some 19) (v := ?_) (a' := ?_) #[true, true, true, true, false, true, false, false, false, false, false, false, false, false, false, false, false, false] rfl rfl (any_of HT_.out (by kernel_rfl)) (fun _ _ _ h => h) (Or.inl ⟨by rfl, ?_⟩) ?_ ?_
              rotate_left
              · intro w'
                go_simp
                with_reducible rfl
              rotate_left
              · simp only [Act.put, List.setIfInBounds_toArray, List.set_cons_zero, List.set_cons_succ, i64_w, i32_w]
                rfl
              refine take_ (i := 4) (N := some 18) (v := ?_) (a' := ?_) #[true, true, true, true, true, true, false, false, false, false, false, false, false, false, false, false, false, false] rfl rfl (take_ofW HT_.out HW_.out (by kernel_rfl)) (fun _ _ _ h => h) (Or.inl ⟨by rfl, ?_⟩) hHeld ?_ ?_
              rotate_left
              · rintro w' ⟨s0, s1, s2, s3, s4, s5, s6, s7, s8, s9, s10⟩
                go_simp
                with_reducible rfl
              rotate_left
              · simp only [Act.put, List.setIfInBounds_toArray, List.set_cons_zero, List.set_cons_succ, i64_w, i32_w]
                rfl
              refine take_ (i := 6) (N := some 20) (v := ?_) (a' := ?_) #[true, true, true, true, true, true, true, false, false, false, false, false, false, false, false, false, false, false] rfl rfl (take_ofW HT_.out HW_.out (by kernel_rfl)) (fun _ _ _ h => h) (Or.inl ⟨by rfl, ?_⟩) hHeld ?_ ?_
              rotate_left
              · rintro w' ⟨s0, s1, s2, s3, s4, s5, s6, s7, s8, s9, s10⟩
                go_simp
                with_reducible rfl
              rotate_left
              · simp only [Act.put, List.setIfInBounds_toArray, List.set_cons_zero, List.set_cons_succ, i64_w, i32_w]
                rfl
              refine pure_ (i := 7) (N := some 21) (v := ?_) (a' := ?_) #[true, true, true, true, true, true, true, true, false, false, false, false, false, false, false, false, false, false] rfl rfl (any_of HT_.out (by kernel_rfl)) (fun _ _ _ h => h) (Or.inl ⟨by rfl, ?_⟩) ?_ ?_
              rotate_left
              · intro w'
                go_simp
                with_reducible rfl
              rotate_left
              · simp only [Act.put, List.setIfInBounds_toArray, List.set_cons_zero, List.set_cons_succ, i64_w, i32_w]
                rfl
              refine pure_ (i := 8) (N := some 22) (v := ?_) (a' := ?_) #[true, true, true, true, true, true, true, true, true, false, false, false, false, false, false, false, false, false] rfl rfl (any_of HT_.out (by kernel_rfl)) (fun _ _ _ h => h) (Or.inl ⟨by rfl, ?_⟩) ?_ ?_
              rotate_left
              · intro w'
                go_simp
                with_reducible rfl
              rotate_left
              · simp only [Act.put, List.setIfInBounds_toArray, List.set_cons_zero, List.set_cons_succ, i64_w, i32_w]
                rfl
              refine pure_ (i := 9) (N := some 23) (v := ?_) (a' := ?_) #[true, true, true, true, true, true, true, true, true, true, false, false, false, false, false, false, false, false] rfl rfl (any_of HT_.out (by kernel_rfl)) (fun _ _ _ h => h) (Or.inl ⟨by rfl, ?_⟩) ?_ ?_
              rotate_left
              · intro w'
                go_simp
                with_reducible rfl
              rotate_left
              · simp only [Act.put, List.setIfInBounds_toArray, List.set_cons_zero, List.set_cons_succ, i64_w, i32_w]
                rfl
              refine pure_ (i := 10) (N := some 24) (v := ?_) (a' := ?_) #[true, true, true, true, true, true, true, true, true, true, true, false, false, false, false, false, false, false] rfl rfl (any_of HT_.out (by kernel_rfl)) (fun _ _ _ h => h) (Or.inl ⟨by rfl, ?_⟩) ?_ ?_
              rotate_left
              · intro w'
                go_simp
                with_reducible rfl
              rotate_left
              · simp only [Act.put, List.setIfInBounds_toArray, List.set_cons_zero, List.set_cons_succ, i64_w, i32_w]
                rfl
              refine pure_ (i := 11) (N := some 25) (v := ?_) (a' := ?_) #[true, true, true, true, true, true, true, true, true, true, true, true, false, false, false, false, false, false] rfl rfl (any_of HT_.out (by kernel_rfl)) (fun _ _ _ h => h) (Or.inl ⟨by rfl, ?_⟩) ?_ ?_
              rotate_left
              · intro w'
                go_simp
                with_reducible rfl
              rotate_left
              · simp only [Act.put, List.setIfInBounds_toArray, List.set_cons_zero, List.set_cons_succ, i64_w, i32_w]
                rfl
              refine pure_ (i := 12) (N := some 26) (v := ?_) (a' := ?_) #[true, true, true, true, true, true, true, true, true, true, true, true, true, false, false, false, false, false] rfl rfl (any_of HT_.out (by kernel_rfl)) (fun _ _ _ h => h) (Or.inl ⟨by rfl, ?_⟩) ?_ ?_
              rotate_left
              · intro w'
                go_simp
                with_reducible rfl
              rotate_left
              · simp only [Act.put, List.setIfInBounds_toArray, List.set_cons_zero, List.set_cons_succ, i64_w, i32_w]
                rfl
              refine pure_ (i := 14) (N := some 28) (v := ?_) (a' := ?_) #[true, true, true, true, true, true, true, true, true, true, true, true, true, false, true, false, false, false] rfl rfl (any_of HT_.out (by kernel_rfl)) (fun _ _ _ h => h) (Or.inl ⟨by rfl, ?_⟩) ?_ ?_
              rotate_left
              · intro w'
                go_simp
                with_reducible rfl
              rotate_left
              · simp only [Act.put, List.setIfInBounds_toArray, List.set_cons_zero, List.set_cons_succ, i64_w, i32_w]
                rfl
              refine take_ (i := 13) (N := some 27) (v := ?_) (a' := ?_) #[true, true, true, true, true, true, true, true, true, true, true, true, true, true, true, false, false, false] rfl rfl (take_ofW HT_.out HW_.out (by kernel_rfl)) (fun _ _ _ h => h) (Or.inl ⟨by rfl, ?_⟩) hHeld ?_ ?_
              rotate_left
              · rintro w' ⟨s0, s1, s2, s3, s4, s5, s6, s7, s8, s9, s10⟩
                go_simp
                with_reducible rfl
              rotate_left
              · simp only [Act.put, List.setIfInBounds_toArray, List.set_cons_zero, List.set_cons_succ, i64_w, i32_w]
                rfl
              refine take_ (i := 15) (N := some 29) (v := ?_) (a' := ?_) #[true, true, true, true, true, true, true, true, true, true, true, true, true, true, true, true, false, false] rfl rfl (take_ofW HT_.out HW_.out (by kernel_rfl)) (fun _ _ _ h => h) (Or.inl ⟨by rfl, ?_⟩) hHeld ?_ ?_
              rotate_left
              · rintro w' ⟨s0, s1, s2, s3, s4, s5, s6, s7, s8, s9, s10⟩
                go_simp
                with_reducible rfl
              rotate_left
              · simp only [Act.put, List.setIfInBounds_toArray, List.set_cons_zero, List.set_cons_succ, i64_w, i32_w]
                rfl
              refine one_ (i := 16) (N := some 30) #[true, true, true, true, true, true, true, true, true, true, true, true, true, true, true, true, true, false] rfl rfl (one_of HT_.out (by kernel_rfl)) (by decide) (fun K hK => ?_)
              refine goes_ Try.func83 (by kernel_rfl) rfl #[.slice A239_1 ((rd_T36 l0 x6_1).f1).length c239_1, .slice A1_3 l1_3.length c1_3] (by rfl) rfl rfl (by (try simp only [List.map_toArray, List.map_cons, List.map_nil]); first | done | rfl | (simp only [List.length_drop, List.length_take]; rfl)) ?_
              with_reducible refine (spec_ScopesWithin.calls _ _ ((rd_T36 l0 x6_1).f1) _ _ l1_3 false _ ?side1 ?side2 ?side3 ?side4 A9.out).mono ?_
              (case side1 => repeat (first | exact (Kd.C_below HR240_1.out HB.out) | (with_reducible refine Kd.C_alloc ?_ _) | (with_reducible refine Kd.C_drewN ?_ _) | (with_reducible refine Kd.C_drew ?_)))
              (case side2 => exact HC240_1.out)
              (case side3 => repeat (first | exact (Kd.C_below HR1_3.out HB.out) | (with_reducible refine Kd.C_alloc ?_ _) | (with_reducible refine Kd.C_drewN ?_ _) | (with_reducible refine Kd.C_drew ?_)))
              (case side4 => exact HC1_3.out)
              rintro e w16 ⟨rfl, hb⟩
              refine ⟨_, rfl, ?_⟩
              have n0_ := Aside0.mk (Kd.R_below (by (with_reducible repeat (first | apply Kd.R_alloc | apply Kd.R_drewN | apply Kd.R_drew)); exact HO_5.out) hb)
              have n1_ := Aside0.mk (blk_below (g := gb235) (o := .cells #[.int .i64 a1_0, .string a1_1, .int .i64 a1_2, .slice A1_3 l1_3.length c1_3, .slice A1_4 l1_4.length c1_4] 30 (0, 0)) (by (with_reducible repeat (first | refine blk_drewN ?_ _ | refine blk_drew ?_ | refine blk_alloc ?_ _)); exact BK235.out) hb)
              have n2_ := Aside0.mk (below_step (by repeat (first | (with_reducible first | exact HB.out | apply below_alloc | apply pw_below_drewN | apply below_drew1 | refine below_set ?_ GE235.out) | exact HB.out)) hb)
              clear HO_5
              clear BK235
              clear HB
              have HO_5 := n0_
              have BK235 := n1_
              have HB := n2_
              clear n0_ n1_ n2_
              (try clear hb)
              (try clear hb2)
              (try clear hk)
              (try clear hi)
              refine hK.out _ _ ⟨(blk_cell BK235.out 0).trans rfl, (blk_cell BK235.out 1).trans rfl, (blk_cell BK235.out 2).trans rfl, (blk_cell BK235.out 3).trans rfl, (blk_cell BK235.out 4).trans rfl, ((HB.out.cell (World.block_lt_of_cell? w _ hw239_0)).trans hw239_0), ((HB.out.cell (World.block_lt_of_cell? w _ hw239_1)).trans hw239_1), ((HB.out.cell (World.block_lt_of_cell? w _ hw239_2)).trans hw239_2), ((HB.out.cell (World.block_lt_of_cell? w _ hw240_0)).trans hw240_0), ((HB.out.cell (World.block_lt_of_cell? w _ hw240_1)).trans hw240_1), ((HB.out.cell (World.block_lt_of_cell? w _ hw240_2)).trans hw240_2)⟩ (fun hHeld => ?_)
              clear hK K
              refine norm_ (a' := ?_) ?_ ?_
              rotate_left
              · show Act.put _ (some 30) _ = _
                simp only [Act.put, List.setIfInBounds_toArray, List.set_cons_zero, List.set_cons_succ, i64_w, i32_w]
                rfl
              refine pure_ (i := 17) (N := some 31) (v := ?_) (a' := ?_) #[true, true, true, true, true, true, true, true, true, true, true, true, true, true, true, true, true, true] rfl rfl (any_of HT_.out (by kernel_rfl)) (fun _ _ _ h => h) (Or.inl ⟨by rfl, ?_⟩) ?_ ?_
              rotate_left
              · intro w'
                go_simp
                with_reducible rfl
              rotate_left
              · simp only [Act.put, List.setIfInBounds_toArray, List.set_cons_zero, List.set_cons_succ, i64_w, i32_w]
                rfl
              refine done_ (done_of HT_.out (by kernel_rfl)) ?_
              try go_wp2
              go_roundg k1
              case measure => have := HK1.out; omega
              case rel => exact ⟨(x5_1), (wrap64 (x6_1 + 1)), (by first | rfl | (simp; done) | (simp [*]; done)), H', ⟨by have := HK1.out; omega⟩, ⟨by (with_reducible repeat (first | apply Kd.R_alloc | apply Kd.R_drewN | apply Kd.R_drew)); exact HO_5.out⟩, ⟨by (with_reducible repeat (first | refine blk_drewN ?_ _ | refine blk_drew ?_ | refine blk_alloc ?_ _)); exact BK235.out⟩, ⟨by repeat (first | (with_reducible first | exact HB.out | apply below_alloc | apply pw_below_drewN | apply below_drew1 | refine below_set ?_ GE235.out) | exact HB.out)⟩⟩
          · rw [if_neg c8] at H
            have c8b0 : (((rd_T36 l0 x6_1).f0).toList == a1_1.toList) = false := beq_eq_false_iff_ne.mpr c8
            have c8b1 : (((rd_T36 l0 x6_1).f0).toList != a1_1.toList) = true := bne_iff_ne.mpr c8
            have H' := Aside0.mk H
            clear H
            try go_wp2
            have n0_ := Aside0.mk (Kd.R_drew HO_5.out)
            have n1_ := Aside0.mk (blk_drew BK235.out)
            have n2_ := Aside0.mk (below_drew1 HB.out)
            clear HO_5
            clear BK235
            clear HB
            have HO_5 := n0_
            have BK235 := n1_
            have HB := n2_
            clear n0_ n1_ n2_
            have p239 : 0 ≤ (x6_1 : Int) := of_decide_eq_true (by first | (with_reducible assumption) | assumption)
            have q239 : x6_1 < (l0.length : Int) := of_decide_eq_true (by first | (with_reducible assumption) | assumption)
            obtain ⟨ad239, A239_1, c239_1, e239, hx239_0, hx239_1, hx239_2, hl239_1, hi239_1⟩ := at_T36 HR0.out x6_1 p239 q239
            have hw239_2 := hx239_2
            have hw239_1 := hx239_1
            have hw239_0 := hx239_0
            cases e239
            replace hx239_0 := (HB.out.cell (World.block_lt_of_cell? w _ hx239_0)).trans hx239_0
            replace hx239_1 := (HB.out.cell (World.block_lt_of_cell? w _ hx239_1)).trans hx239_1
            replace hx239_2 := (HB.out.cell (World.block_lt_of_cell? w _ hx239_2)).trans hx239_2
            have HR239_1 := Aside0.mk hi239_1
            have HC239_1 := Aside0.mk hl239_1
            clear hi239_1 hl239_1
            replace p239 := eq_true p239
            replace q239 := eq_true q239
            refine start_ (n := 18) (S := fun w' => w'.cell? ⟨gb235, 0, none⟩ = some (.int .i64 a1_0) ∧ w'.cell? ⟨gb235, 1, none⟩ = some (.string a1_1) ∧ w'.cell? ⟨gb235, 2, none⟩ = some (.int .i64 a1_2) ∧ w'.cell? ⟨gb235, 3, none⟩ = some (.slice A1_3 l1_3.length c1_3) ∧ w'.cell? ⟨gb235, 4, none⟩ = some (.slice A1_4 l1_4.length c1_4) ∧ w'.cell? (ad239.add ((x6_1).toNat * 3)) = some (.string ((rd_T36 l0 x6_1).f0)) ∧ w'.cell? ⟨(ad239.add ((x6_1).toNat * 3)).block, (ad239.add ((x6_1).toNat * 3)).off + 1, none⟩ = some (.slice A239_1 ((rd_T36 l0 x6_1).f1).length c239_1) ∧ w'.cell? ⟨(ad239.add ((x6_1).toNat * 3)).block, (ad239.add ((x6_1).toNat * 3)).off + 2, none⟩ = some (.int .i64 ((rd_T36 l0 x6_1).f2))) (ds := []) #[false, false, false, false, false, false, false, false, false, false, false, false, false, false, false, false, false, false] (by kernel_rfl) rfl rfl ⟨(blk_cell BK235.out 0).trans rfl, (blk_cell BK235.out 1).trans rfl, (blk_cell BK235.out 2).trans rfl, (blk_cell BK235.out 3).trans rfl, (blk_cell BK235.out 4).trans rfl, ((HB.out.cell (World.block_lt_of_cell? w _ hw239_0)).trans hw239_0), ((HB.out.cell (World.block_lt_of_cell? w _ hw239_1)).trans hw239_1), ((HB.out.cell (World.block_lt_of_cell? w _ hw239_2)).trans hw239_2)⟩ (fun hHeld => ?_); refine with_tabW spec_l3Fitting.tab5 spec_l3Fitting.bits5 (fun HT_ HW_ => ?_)
            generalize wr.drew = w17 at HO_5 BK235 HB HR239_1 hx239_0 hx239_1 hx239_2 hHeld ⊢
            refine pure_ (i := 0) (N := some 14) (v := ?_) (a' := ?_) #[true, false, false, false, false, false, false, false, false, false, false, false, false, false, false, false, false, false] rfl rfl (any_of HT_.out (by kernel_rfl)) (fun _ _ _ h => h) (Or.inl ⟨by rfl, ?_⟩) ?_ ?_
            rotate_left
            · intro w'
              go_simp
              with_reducible rfl
            rotate_left
            · simp only [Act.put, List.setIfInBounds_toArray, List.set_cons_zero, List.set_cons_succ, i64_w, i32_w]
              rfl
            refine pure_ (i := 1) (N := some 15) (v := ?_) (a' := ?_) #[true, true, false, false, false, false, false, false, false, false, false, false, false, false, false, false, false, false] rfl rfl (any_of HT_.out (by kernel_rfl)) (fun _ _ _ h => h) (Or.inl ⟨by rfl, ?_⟩) ?_ ?_
            rotate_left
            · intro w'
              go_simp
              with_reducible rfl
            rotate_left
            · simp only [Act.put, List.setIfInBounds_toArray, List.set_cons_zero, List.set_cons_succ, i64_w, i32_w]
              rfl
            refine pure_ (i := 2) (N := some 16) (v := ?_) (a' := ?_) #[true, true, true, false, false, false, false, false, false, false, false, false, false, false, false, false, false, false] rfl rfl (any_of HT_.out (by kernel_rfl)) (fun _ _ _ h => h) (Or.inl ⟨by rfl, ?_⟩) ?_ ?_
            rotate_left
            · intro w'
              go_simp
              with_reducible rfl
            rotate_left
            · simp only [Act.put, List.setIfInBounds_toArray, List.set_cons_zero, List.set_cons_succ, i64_w, i32_w]
              rfl
            refine pure_ (i := 3) (N := some 17) (v := ?_) (a' := ?_) #[true, true, true, true, false, false, false, false, false, false, false, false, false, false, false, false, false, false] rfl rfl (any_of HT_.out (by kernel_rfl)) (fun _ _ _ h => h) (Or.inl ⟨by rfl, ?_⟩) ?_ ?_
            rotate_left
            · intro w'
              go_simp
              with_reducible rfl
            rotate_left
            · simp only [Act.put, List.setIfInBounds_toArray, List.set_cons_zero, List.set_cons_succ, i64_w, i32_w]
              rfl
            refine pure_ (i := 5) (N := some 19) (v := ?_) (a' := ?_) #[true, true, true, true, false, true, false, false, false, false, false, false, false, false, false, false, false, false] rfl rfl (any_of HT_.out (by kernel_rfl)) (fun _ _ _ h => h) (Or.inl ⟨by rfl, ?_⟩) ?_ ?_
            rotate_left
            · intro w'
              go_simp
              with_reducible rfl
            rotate_left
            · simp only [Act.put, List.setIfInBounds_toArray, List.set_cons_zero, List.set_cons_succ, i64_w, i32_w]
              rfl
            refine take_ (i := 4) (N := some 18) (v := ?_) (a' := ?_) #[true, true, true, true, true, true, false, false, false, false, false, false, false, false, false, false, false, false] rfl rfl (take_ofW HT_.out HW_.out (by kernel_rfl)) (fun _ _ _ h => h) (Or.inl ⟨by rfl, ?_⟩) hHeld ?_ ?_
            rotate_left
            · rintro w' ⟨s0, s1, s2, s3, s4, s5, s6, s7⟩
              go_simp
              with_reducible rfl
            rotate_left
            · simp only [Act.put, List.setIfInBounds_toArray, List.set_cons_zero, List.set_cons_succ, i64_w, i32_w]
              rfl
            refine take_ (i := 6) (N := some 20) (v := ?_) (a' := ?_) #[true, true, true, true, true, true, true, false, false, false, false, false, false, false, false, false, false, false] rfl rfl (take_ofW HT_.out HW_.out (by kernel_rfl)) (fun _ _ _ h => h) (Or.inl ⟨by rfl, ?_⟩) hHeld ?_ ?_
            rotate_left
            · rintro w' ⟨s0, s1, s2, s3, s4, s5, s6, s7⟩
              go_simp
              with_reducible rfl
            rotate_left
            · simp only [Act.put, List.setIfInBounds_toArray, List.set_cons_zero, List.set_cons_succ, i64_w, i32_w]
              rfl
            refine pure_ (i := 7) (N := some 21) (v := ?_) (a' := ?_) #[true, true, true, true, true, true, true, true, false, false, false, false, false, false, false, false, false, false] rfl rfl (any_of HT_.out (by kernel_rfl)) (fun _ _ _ h => h) (Or.inl ⟨by rfl, ?_⟩) ?_ ?_
            rotate_left
            · intro w'
              go_simp
              with_reducible rfl
            rotate_left
            · simp only [Act.put, List.setIfInBounds_toArray, List.set_cons_zero, List.set_cons_succ, i64_w, i32_w]
              rfl
            refine pure_ (i := 8) (N := some 22) (v := ?_) (a' := ?_) #[true, true, true, true, true, true, true, true, true, false, false, false, false, false, false, false, false, false] rfl rfl (any_of HT_.out (by kernel_rfl)) (fun _ _ _ h => h) (Or.inl ⟨by rfl, ?_⟩) ?_ ?_
            rotate_left
            · intro w'
              go_simp
              with_reducible rfl
            rotate_left
            · simp only [Act.put, List.setIfInBounds_toArray, List.set_cons_zero, List.set_cons_succ, i64_w, i32_w]
              rfl
            refine pure_ (i := 9) (N := some 23) (v := undef) (a' := ?_) #[true, true, true, true, true, true, true, true, true, true, false, false, false, false, false, false, false, false] rfl rfl (any_of HT_.out (by kernel_rfl)) (fun _ _ _ h => h) (Or.inr ⟨by rfl, rfl⟩) ?_ ?_
            rotate_left
            · simp only [Act.put, List.setIfInBounds_toArray, List.set_cons_zero, List.set_cons_succ, i64_w, i32_w]
              rfl
            refine pure_ (i := 10) (N := some 24) (v := undef) (a' := ?_) #[true, true, true, true, true, true, true, true, true, true, true, false, false, false, false, false, false, false] rfl rfl (any_of HT_.out (by kernel_rfl)) (fun _ _ _ h => h) (Or.inr ⟨by rfl, rfl⟩) ?_ ?_
            rotate_left
            · simp only [Act.put, List.setIfInBounds_toArray, List.set_cons_zero, List.set_cons_succ, i64_w, i32_w]
              rfl
            refine pure_ (i := 11) (N := some 25) (v := undef) (a' := ?_) #[true, true, true, true, true, true, true, true, true, true, true, true, false, false, false, false, false, false] rfl rfl (any_of HT_.out (by kernel_rfl)) (fun _ _ _ h => h) (Or.inr ⟨by rfl, rfl⟩) ?_ ?_
            rotate_left
            · simp only [Act.put, List.setIfInBounds_toArray, List.set_cons_zero, List.set_cons_succ, i64_w, i32_w]
              rfl
            refine pure_ (i := 12) (N := some 26) (v := undef) (a' := ?_) #[true, true, true, true, true, true, true, true, true, true, true, true, true, false, false, false, false, false] rfl rfl (any_of HT_.out (by kernel_rfl)) (fun _ _ _ h => h) (Or.inr ⟨by rfl, rfl⟩) ?_ ?_
            rotate_left
            · simp only [Act.put, List.setIfInBounds_toArray, List.set_cons_zero, List.set_cons_succ, i64_w, i32_w]
              rfl
            refine pure_ (i := 13) (N := some 27) (v := undef) (a' := ?_) #[true, true, true, true, true, true, true, true, true, true, true, true, true, true, false, false, false, false] rfl rfl (any_of HT_.out (by kernel_rfl)) (fun _ _ _ h => h) (Or.inr ⟨by rfl, rfl⟩) ?_ ?_
            rotate_left
            · simp only [Act.put, List.setIfInBounds_toArray, List.set_cons_zero, List.set_cons_succ, i64_w, i32_w]
              rfl
            refine pure_ (i := 14) (N := some 28) (v := undef) (a' := ?_) #[true, true, true, true, true, true, true, true, true, true, true, true, true, true, true, false, false, false] rfl rfl (any_of HT_.out (by kernel_rfl)) (fun _ _ _ h => h) (Or.inr ⟨by rfl, rfl⟩) ?_ ?_
            rotate_left
            · simp only [Act.put, List.setIfInBounds_toArray, List.set_cons_zero, List.set_cons_succ, i64_w, i32_w]
              rfl
            refine pure_ (i := 15) (N := some 29) (v := undef) (a' := ?_) #[true, true, true, true, true, true, true, true, true, true, true, true, true, true, true, true, false, false] rfl rfl (any_of HT_.out (by kernel_rfl)) (fun _ _ _ h => h) (Or.inr ⟨by rfl, rfl⟩) ?_ ?_
            rotate_left
            · simp only [Act.put, List.setIfInBounds_toArray, List.set_cons_zero, List.set_cons_succ, i64_w, i32_w]
              rfl
            refine pure_ (i := 16) (N := some 30) (v := undef) (a' := ?_) #[true, true, true, true, true, true, true, true, true, true, true, true, true, true, true, true, true, false] rfl rfl (any_of HT_.out (by kernel_rfl)) (fun _ _ _ h => h) (Or.inr ⟨by rfl, rfl⟩) ?_ ?_
            rotate_left
            · simp only [Act.put, List.setIfInBounds_toArray, List.set_cons_zero, List.set_cons_succ, i64_w, i32_w]
              rfl
            refine pure_ (i := 17) (N := some 31) (v := ?_) (a' := ?_) #[true, true, true, true, true, true, true, true, true, true, true, true, true, true, true, true, true, true] rfl rfl (any_of HT_.out (by kernel_rfl)) (fun _ _ _ h => h) (Or.inl ⟨by rfl, ?_⟩) ?_ ?_
            rotate_left
            · intro w'
              go_simp
              with_reducible rfl
            rotate_left
            · simp only [Act.put, List.setIfInBounds_toArray, List.set_cons_zero, List.set_cons_succ, i64_w, i32_w]
              rfl
            refine done_ (done_of HT_.out (by kernel_rfl)) ?_
            try go_wp2
            go_roundg k1
            case measure => have := HK1.out; omega
            case rel => exact ⟨(x5_1), (wrap64 (x6_1 + 1)), (by first | rfl | (simp; done) | (simp [*]; done)), H', ⟨by have := HK1.out; omega⟩, ⟨by (with_reducible repeat (first | apply Kd.R_alloc | apply Kd.R_drewN | apply Kd.R_drew)); exact HO_5.out⟩, ⟨by (with_reducible repeat (first | refine blk_drewN ?_ _ | refine blk_drew ?_ | refine blk_alloc ?_ _)); exact BK235.out⟩, ⟨by repeat (first | (with_reducible first | exact HB.out | apply below_alloc | apply pw_below_drewN | apply below_drew1 | refine below_set ?_ GE235.out) | exact HB.out)⟩⟩
        · rw [if_neg c7] at H
          exact absurd H (by simp)
      · rw [if_neg c6] at H
        have c6b0 : decide (x6_1 < (l0.length : Int)) = false := decide_eq_false c6
        clear c6
        obtain rfl := Option.some.inj H
        go_wp2
        go_ret
        exact ⟨_, by first | rfl | (simp [errW_none, errW_some] <;> rfl) | (simp [*, errW_none, errW_some] <;> rfl), by (with_reducible repeat (first | apply Kd.R_alloc | apply Kd.R_drewN | apply Kd.R_drew)); exact HO_5.out, by repeat (first | (with_reducible first | exact HB.out | apply below_alloc | apply pw_below_drewN | apply below_drew1 | refine below_set ?_ GE235.out) | exact HB.out)⟩

end Go.Proofs.Ytcbomlmlindjdaa.Q
end
section
namespace Go.Proofs.Ytcbomlmlindjdaa.Q
open Go.RowKit Go.Proofs.YtcbomlmlindjdaaW.PrintWords Go.Proofs.YtcbomlmlindjdaaW.PrintLast Go.Proofs.YtcbomlmlindjdaaW.PrintMore
attribute [local go_sem] max2_int min2_int max_two min_two max_three min_three max_four min_four   -- for this text's walks alone
set_option linter.unusedVariables false
set_option linter.unusedSimpArgs false

mutual
noncomputable def spec_l3Find.l0 : Nat → List (S36) → List Int → Int → Option (Int × Int)
  | 0, _, _, _ => none
  | k + 1, x0, x6, x7 => if x7 < (x6.length : Int) then (spec_l3Find.l1 k x0 x6 x7 true 0) else (if (x6.length : Int) > 0 then (some (0, 2)) else (some (0, 0)))
noncomputable def spec_l3Find.l1 : Nat → List (S36) → List Int → Int → Bool → Int → Option (Int × Int)
  | 0, _, _, _, _, _ => none
  | k + 1, x0, x6, x7, x8, x9 => if x9 < (x6.length : Int) then (if x8 = true then (if 0 ≤ x9 then (if 0 ≤ (rd x6 x9) then (if (rd x6 x9) < (x0.length : Int) then (if 0 ≤ x7 then (if x7 < (x6.length : Int) then (if 0 ≤ (rd x6 x7) then (if (rd x6 x7) < (x0.length : Int) then ((spec_ScopesWithin.f ((rd_T36 x0 (rd x6 x9)).f1) ((rd_T36 x0 (rd x6 x7)).f1)).bind fun t253 => (spec_l3Find.l1 k x0 x6 x7 t253 (wrap64 (x9 + 1)))) else (none)) else (none)) else (none)) else (none)) else (none)) else (none)) else (none)) else (spec_l3Find.l1 k x0 x6 x7 false (wrap64 (x9 + 1)))) else (if x8 = true then (if 0 ≤ x7 then (if x7 < (x6.length : Int) then (some (rd x6 x7, 1)) else (none)) else (none)) else (spec_l3Find.l0 k x0 x6 (wrap64 (x7 + 1))))
end
noncomputable def spec_l3Find.f (k : Nat) (l0 : List (S36)) (a1_0 : Int) (a1_1 : ByteArray) (a1_2 : Int) (l1_3 : List Int) (l1_4 : List (S30)) : Option (Int × Int) := (spec_l3Fitting.f k l0 a1_0 a1_1 a1_2 l1_3 l1_4).bind fun t246 => (spec_l3Find.l0 k l0 t246 0)
theorem spec_l3Find.mono_l : ∀ k, (∀ y0 y1 y2, LeO (spec_l3Find.l0 k y0 y1 y2) (spec_l3Find.l0 (k + 1) y0 y1 y2)) ∧ (∀ y0 y1 y2 y3 y4, LeO (spec_l3Find.l1 k y0 y1 y2 y3 y4) (spec_l3Find.l1 (k + 1) y0 y1 y2 y3 y4))
  | 0 => ⟨fun _ _ _ r h => by simp [spec_l3Find.l0] at h, fun _ _ _ _ _ r h => by simp [spec_l3Find.l1] at h⟩
  | k + 1 => by
    obtain ⟨ih0, ih1⟩ := spec_l3Find.mono_l k
    refine ⟨?_, ?_⟩
    · intro y0 y1 y2
      unfold spec_l3Find.l0
      repeat' first
      | (with_reducible exact ih0 _ _ _)
      | (with_reducible exact ih1 _ _ _ _ _)
      | (with_reducible exact spec_l3Fitting.mono _ _ _ _ _ _ _)
      | (with_reducible exact LeO.refl _)
      | (with_reducible exact LeO.none _)
      | (with_reducible refine LeO.ite ?_ ?_)
      | (with_reducible refine LeO.bind ?_ (fun _ => ?_))
      | exact ih0 _ _ _
      | exact ih1 _ _ _ _ _
      | exact spec_l3Fitting.mono _ _ _ _ _ _ _
      | exact LeO.none _
      | refine LeO.ite ?_ ?_
      | refine LeO.bind ?_ (fun _ => ?_)
    · intro y0 y1 y2 y3 y4
      unfold spec_l3Find.l1
      repeat' first
      | (with_reducible exact ih0 _ _ _)
      | (with_reducible exact ih1 _ _ _ _ _)
      | (with_reducible exact spec_l3Fitting.mono _ _ _ _ _ _ _)
      | (with_reducible exact LeO.refl _)
      | (with_reducible exact LeO.none _)
      | (with_reducible refine LeO.ite ?_ ?_)
      | (with_reducible refine LeO.bind ?_ (fun _ => ?_))
      | exact ih0 _ _ _
      | exact ih1 _ _ _ _ _
      | exact spec_l3Fitting.mono _ _ _ _ _ _ _
      | exact LeO.none _
      | refine LeO.ite ?_ ?_
      | refine LeO.bind ?_ (fun _ => ?_)
theorem spec_l3Find.mono : ∀ a0 a1 a2 a3 a4 a5 k, LeO (spec_l3Find.f k a0 a1 a2 a3 a4 a5) (spec_l3Find.f (k + 1) a0 a1 a2 a3 a4 a5) := by
  intro a0 a1 a2 a3 a4 a5 k
  obtain ⟨ih0, ih1⟩ := spec_l3Find.mono_l k
  unfold spec_l3Find.f
  repeat' first
      | (with_reducible exact ih0 _ _ _)
      | (with_reducible exact ih1 _ _ _ _ _)
      | (with_reducible exact spec_l3Fitting.mono _ _ _ _ _ _ _)
      | (with_reducible exact LeO.refl _)
      | (with_reducible exact LeO.none _)
      | (with_reducible refine LeO.ite ?_ ?_)
      | (with_reducible refine LeO.bind ?_ (fun _ => ?_))
      | exact ih0 _ _ _
      | exact ih1 _ _ _ _ _
      | exact spec_l3Fitting.mono _ _ _ _ _ _ _
      | exact LeO.none _
      | refine LeO.ite ?_ ?_
      | refine LeO.bind ?_ (fun _ => ?_)
noncomputable def spec_l3Find.T9 : Bool × List (List Nat × List Nat) := (true, [([], []), ([0], [0]), ([1], [1]), ([1], [1]), ([1], [1]), ([3, 4, 1], [1, 3, 4]), ([5, 1], [1, 5]), ([2, 6, 1], [1, 2, 6]), ([7, 1], [1, 7]), ([8, 1], [1, 8]), ([1], [1]), ([1], [1]), ([1], [1]), ([11, 12, 1], [1, 11, 12]), ([13, 1], [1, 13]), ([10, 14, 1], [1, 10, 14]), ([15, 1], [1, 15]), ([16, 1], [1, 16]), ([9, 17, 1, 1], [1, 9, 17]), ([1, 18], [1, 18]), ([19, 18, 0, 1, 2, 3, 4, 5, 6, 7, 8, 9, 10, 11, 12, 13, 14, 15, 16, 17, 18, 19], [0, 19])])
noncomputable def spec_l3Find.B9 : List Nat := [0, 1, 3, 3, 3, 27, 59, 127, 255, 511, 3, 3, 3, 6147, 14339, 31747, 64515, 130051, 262143, 524287, 1048575]
theorem spec_l3Find.tab9 : rtab .any (opsOf Try.f55 9) = spec_l3Find.T9 := by kernel_rfl
theorem spec_l3Find.bits9 : waitsOk spec_l3Find.T9.2 spec_l3Find.B9 = true := by kernel_rfl
set_option maxHeartbeats 8000000 in
set_option maxRecDepth 100000 in
theorem spec_l3Find.calls (k : Nat) (A0 : Option Addr) (c0 : Nat) (l0 : List (S36)) (a1_0 : Int) (a1_1 : ByteArray) (a1_2 : Int) (A1_3 : Option Addr) (c1_3 : Nat) (l1_3 : List Int) (A1_4 : Option Addr) (c1_4 : Nat) (l1_4 : List (S30)) (r1 : Int) (r2 : Int) (w : World) (hr0 : Kd.C k36 w A0 l0.length l0) (hc0 : l0.length ≤ c0) (hr1_3 : Kd.C (Kd.int .i64) w A1_3 l1_3.length l1_3) (hc1_3 : l1_3.length ≤ c1_3) (hr1_4 : Kd.C k30 w A1_4 l1_4.length l1_4) (hc1_4 : l1_4.length ≤ c1_4) (h : spec_l3Find.f k l0 a1_0 a1_1 a1_2 l1_3 l1_4 = some (r1, r2)) :
    Calls Try.prog 55 #[.slice A0 l0.length c0, .agg #[.int .i64 a1_0, .string a1_1, .int .i64 a1_2, .slice A1_3 l1_3.length c1_3, .slice A1_4 l1_4.length c1_4]] w fun e w' => e = .returned (.tuple #[.int .i64 r1, .int .i64 r2]) ∧ Below w.heap.size w w' := by
  have hu30 := Try.underlying30
  have HR0 := Aside0.mk hr0
  have HC0 := Aside0.mk hc0
  clear hr0 hc0
  have HR1_3 := Aside0.mk hr1_3
  have HC1_3 := Aside0.mk hc1_3
  clear hr1_3 hc1_3
  have HR1_4 := Aside0.mk hr1_4
  have HC1_4 := Aside0.mk hc1_4
  clear hr1_4 hc1_4
  have HB := Aside0.mk (Below.refl w.heap.size w)
  have H : ((spec_l3Fitting.f k l0 a1_0 a1_1 a1_2 l1_3 l1_4).bind fun t246 => (spec_l3Find.l0 k l0 t246 0)) = some (r1, r2) := h
  clear h
  replace H := Option.bind_eq_some_iff.mp H
  obtain ⟨t246, A30, H⟩ := H
  replace H : (spec_l3Find.l0 k l0 t246 0) = some (r1, r2) := H
  have A3 := Aside0.mk A30
  clear A30
  have H' := Aside0.mk H
  clear H
  go_enter Try.func55, Try.ntmps55
  go_wp2_with (first | ((with_reducible refine gate_dst (N := 3) rfl ?_); refine box_event ?hg (N := 3) ?hd (cs := #[.int .i64 a1_0, .string a1_1, .int .i64 a1_2, .slice A1_3 l1_3.length c1_3, .slice A1_4 l1_4.length c1_4]) (t := 30) ?hr ?_; (case hd => rfl); (case hg => rfl); (case hr => first | (go_simp; done) | (go_simp; rfl)); intro gb245 hg w4 hbox hb; have n0_ := Aside0.mk (below_step (by repeat (first | (with_reducible first | exact HB.out | apply below_alloc | apply pw_below_drewN | apply below_drew1) | exact HB.out)) hb); have n1_ := Aside0.mk (hbox); have n2_ := Aside0.mk ((by rw [hg]; exact (below_size (by repeat (first | (with_reducible first | exact HB.out | apply below_alloc | apply pw_below_drewN | apply below_drew1) | exact HB.out))) : w.heap.size ≤ gb245)); have n3_ := Aside0.mk ((by rw [hg]; exact (below_size (by repeat (first | (with_reducible first | exact HB.out | apply below_alloc | apply pw_below_drewN | apply below_drew1) | exact HB.out))) : w.heap.size ≤ gb245)); clear HB; have HB := n0_; have BK245 := n1_; have GW245 := n2_; have GE245 := n3_; clear n0_ n1_ n2_ n3_; clear hb hbox hg; have hcz5_0 : w4.cell? ⟨gb245, 0, none⟩ = some (.int .i64 a1_0) := (blk_cell BK245.out 0).trans rfl; have hcz5_1 : w4.cell? ⟨gb245, 1, none⟩ = some (.string a1_1) := (blk_cell BK245.out 1).trans rfl; have hcz5_2 : w4.cell? ⟨gb245, 2, none⟩ = some (.int .i64 a1_2) := (blk_cell BK245.out 2).trans rfl; have hcz5_3 : w4.cell? ⟨gb245, 3, none⟩ = some (.slice A1_3 l1_3.length c1_3) := (blk_cell BK245.out 3).trans rfl; have hcz5_4 : w4.cell? ⟨gb245, 4, none⟩ = some (.slice A1_4 l1_4.length c1_4) := (blk_cell BK245.out 4).trans rfl; have hfz5_0 := blk_frozen BK245.out 0; have hfz5_1 := blk_frozen BK245.out 1; have hfz5_2 := blk_frozen BK245.out 2; have hfz5_3 := blk_frozen BK245.out 3; have hfz5_4 := blk_frozen BK245.out 4) | ((with_reducible refine gate_callee (f := 73) rfl ?_); refine goesL_ (some 12) rfl rfl Try.func73 (by kernel_rfl) rfl #[.slice A0 l0.length c0, .agg #[.int .i64 a1_0, .string a1_1, .int .i64 a1_2, .slice A1_3 l1_3.length c1_3, .slice A1_4 l1_4.length c1_4]] rfl (by (try simp only [List.map_toArray, List.map_cons, List.map_nil]); first | done | rfl | (simp only [List.length_drop, List.length_take]; rfl)) ?_; (with_reducible refine (spec_l3Fitting.calls k _ _ l0 a1_0 a1_1 a1_2 _ _ l1_3 _ _ l1_4 t246 _ ?side1 ?side2 ?side3 ?side4 ?side5 ?side6 A3.out).mono ?_); (case side1 => repeat (first | exact (Kd.C_below HR0.out HB.out) | (with_reducible refine Kd.C_alloc ?_ _) | (with_reducible refine Kd.C_drewN ?_ _) | (with_reducible refine Kd.C_drew ?_))); (case side2 => exact HC0.out); (case side3 => repeat (first | exact (Kd.C_below HR1_3.out HB.out) | (with_reducible refine Kd.C_alloc ?_ _) | (with_reducible refine Kd.C_drewN ?_ _) | (with_reducible refine Kd.C_drew ?_))); (case side4 => exact HC1_3.out); (case side5 => repeat (first | exact (Kd.C_below HR1_4.out HB.out) | (with_reducible refine Kd.C_alloc ?_ _) | (with_reducible refine Kd.C_drewN ?_ _) | (with_reducible refine Kd.C_drew ?_))); (case side6 => exact HC1_4.out); rintro e w6 ⟨v247, rfl, ho0, hb⟩; refine ⟨_, rfl, ?_⟩; have n0_ := Aside0.mk (Kd.R_lower ho0 (below_size (by repeat (first | (with_reducible first | exact HB.out | apply below_alloc | apply pw_below_drewN | apply below_drew1 | refine below_set ?_ GE245.out) | exact HB.out)))); have n1_ := Aside0.mk (blk_below (g := gb245) (o := .cells #[.int .i64 a1_0, .string a1_1, .int .i64 a1_2, .slice A1_3 l1_3.length c1_3, .slice A1_4 l1_4.length c1_4] 30 (0, 0)) (by (with_reducible repeat (first | refine blk_drewN ?_ _ | refine blk_drew ?_ | refine blk_alloc ?_ _)); exact BK245.out) hb); have n2_ := Aside0.mk (below_step (by repeat (first | (with_reducible first | exact HB.out | apply below_alloc | apply pw_below_drewN | apply below_drew1 | refine below_set ?_ GE245.out) | exact HB.out)) hb); clear BK245; clear HB; have HO248 := n0_; have BK245 := n1_; have HB := n2_; clear n0_ n1_ n2_; (try clear hb); (try clear hb2); (try clear hk); (try clear hi); (try clear ho0)))
  go_loopg [7] k (fun kq v7 w' => ∃ (x7_1 : Int), v7 = .int .i64 x7_1 ∧ Aside0 (spec_l3Find.l0 kq l0 t246 x7_1 = some (r1, r2)) ∧ Aside0 (kq ≤ k) ∧ Aside0 (Kd.R (Kd.int .i64) 3 w' w.heap.size (fun _ => True) v247 t246) ∧ Aside0 (w'.heap[gb245]? = some (.cells #[.int .i64 a1_0, .string a1_1, .int .i64 a1_2, (.slice A1_3 l1_3.length c1_3), (.slice A1_4 l1_4.length c1_4)] 30 (0, 0))) ∧ Aside0 (Below w.heap.size w w'))
  case atStart => exact ⟨(0), (by first | rfl | (simp; done) | (simp [*]; done)), H', ⟨Nat.le_refl _⟩, ⟨by (with_reducible repeat (first | apply Kd.R_alloc | apply Kd.R_drewN | apply Kd.R_drew)); exact HO248.out⟩, ⟨by (with_reducible repeat (first | refine blk_drewN ?_ _ | refine blk_drew ?_ | refine blk_alloc ?_ _)); exact BK245.out⟩, ⟨by repeat (first | (with_reducible first | exact HB.out | apply below_alloc | apply pw_below_drewN | apply below_drew1 | refine below_set ?_ GE245.out) | exact HB.out)⟩⟩
  case round =>
    clear H'
    try clear c1
    try clear p2
    try clear c5
    try clear hcz5_0
    try clear hcz5_1
    try clear hcz5_2
    try clear hcz5_3
    try clear hcz5_4
    try clear hfz5_0
    try clear hfz5_1
    try clear hfz5_2
    try clear hfz5_3
    try clear hfz5_4
    obtain ⟨x7_1, rfl, HA, HK1, HO_6, BK245, HB⟩ := hrel
    cases gk with
    | zero => exact absurd HA.out (by simp [spec_l3Find.l0])
    | succ k1 =>
      have H := HA.out
      clear HA
      simp only [spec_l3Find.l0] at H
      by_cases c7 : x7_1 < (t246.length : Int)
      · rw [if_pos c7] at H
        have c7b0 : decide (x7_1 < (t246.length : Int)) = true := decide_eq_true c7
        clear c7
        have H' := Aside0.mk H
        clear H
        obtain ⟨Ao8, co8, eo8⟩ := Kd.R_slice HO_6.out
        subst eo8
        go_wp2
        go_loopg [8, 9] k1 (fun kq v8 v9 w' => ∃ (x8_2 : Bool) (x9_2 : Int), v8 = .bool x8_2 ∧ v9 = .int .i64 x9_2 ∧ Aside0 (spec_l3Find.l1 kq l0 t246 x7_1 x8_2 x9_2 = some (r1, r2)) ∧ Aside0 (kq ≤ k1) ∧ Aside0 (Kd.R (Kd.int .i64) 3 w' w.heap.size (fun _ => True) (.slice Ao8 t246.length co8) t246) ∧ Aside0 (w'.heap[gb245]? = some (.cells #[.int .i64 a1_0, .string a1_1, .int .i64 a1_2, (.slice A1_3 l1_3.length c1_3), (.slice A1_4 l1_4.length c1_4)] 30 (0, 0))) ∧ Aside0 (Below w.heap.size w w'))
        case atStart => exact ⟨(true), (0), (by first | rfl | (simp; done) | (simp [*]; done)), (by first | rfl | (simp; done) | (simp [*]; done)), H', ⟨Nat.le_refl _⟩, ⟨by (with_reducible repeat (first | apply Kd.R_alloc | apply Kd.R_drewN | apply Kd.R_drew)); exact HO_6.out⟩, ⟨by (with_reducible repeat (first | refine blk_drewN ?_ _ | refine blk_drew ?_ | refine blk_alloc ?_ _)); exact BK245.out⟩, ⟨by repeat (first | (with_reducible first | exact HB.out | apply below_alloc | apply pw_below_drewN | apply below_drew1 | refine below_set ?_ GE245.out) | exact HB.out)⟩⟩
        case round =>
          clear H'
          try clear c1
          try clear p2
          try clear c5
          try clear c7
          try clear c7b0
          try clear hcz5_0
          try clear hcz5_1
          try clear hcz5_2
          try clear hcz5_3
          try clear hcz5_4
          try clear hfz5_0
          try clear hfz5_1
          try clear hfz5_2
          try clear hfz5_3
          try clear hfz5_4
          try clear p2
          obtain ⟨x8_2, x9_2, rfl, rfl, HA, HK2, HO_6, BK245, HB⟩ := hrel
          cases gk with
          | zero => exact absurd HA.out (by simp [spec_l3Find.l1])
          | succ k2 =>
            have H := HA.out
            clear HA
            simp only [spec_l3Find.l1] at H
            by_cases c9 : x9_2 < (t246.length : Int)
            · rw [if_pos c9] at H
              have c9b0 : decide (x9_2 < (t246.length : Int)) = true := decide_eq_true c9
              clear c9
              by_cases c10 : x8_2 = true
              · subst c10
                have H1 : (if 0 ≤ x9_2 then (if 0 ≤ (rd t246 x9_2) then (if (rd t246 x9_2) < (l0.length : Int) then (if 0 ≤ x7_1 then (if x7_1 < (t246.length : Int) then (if 0 ≤ (rd t246 x7_1) then (if (rd t246 x7_1) < (l0.length : Int) then ((spec_ScopesWithin.f ((rd_T36 l0 (rd t246 x9_2)).f1) ((rd_T36 l0 (rd t246 x7_1)).f1)).bind fun t253 => (spec_l3Find.l1 k2 l0 t246 x7_1 t253 (wrap64 (x9_2 + 1)))) else (none)) else (none)) else (none)) else (none)) else (none)) else (none)) else (none)) = some (r1, r2) := by rw [if_pos rfl] at H; exact H
                clear H
                have H := H1
                clear H1
                by_cases c11 : 0 ≤ x9_2
                · rw [if_pos c11] at H
                  have c11b0 : decide (0 ≤ x9_2) = true := decide_eq_true c11
                  clear c11
                  by_cases c12 : 0 ≤ (rd t246 x9_2)
                  · rw [if_pos c12] at H
                    have c12b0 : decide (0 ≤ (rd t246 x9_2)) = true := decide_eq_true c12
                    clear c12
                    by_cases c13 : (rd t246 x9_2) < (l0.length : Int)
                    · rw [if_pos c13] at H
                      have c13b0 : decide ((rd t246 x9_2) < (l0.length : Int)) = true := decide_eq_true c13
                      clear c13
                      by_cases c14 : 0 ≤ x7_1
                      · rw [if_pos c14] at H
                        have c14b0 : decide (0 ≤ x7_1) = true := decide_eq_true c14
                        clear c14
                        by_cases c15 : x7_1 < (t246.length : Int)
                        · rw [if_pos c15] at H
                          have c15b0 : decide (x7_1 < (t246.length : Int)) = true := decide_eq_true c15
                          clear c15
                          by_cases c16 : 0 ≤ (rd t246 x7_1)
                          · rw [if_pos c16] at H
                            have c16b0 : decide (0 ≤ (rd t246 x7_1)) = true := decide_eq_true c16
                            clear c16
                            by_cases c17 : (rd t246 x7_1) < (l0.length : Int)
                            · rw [if_pos c17] at H
                              have c17b0 : decide ((rd t246 x7_1) < (l0.length : Int)) = true := decide_eq_true c17
                              clear c17
                              replace H := Option.bind_eq_some_iff.mp H
                              obtain ⟨t253, A180, H⟩ := H
                              replace H : (spec_l3Find.l1 k2 l0 t246 x7_1 t253 (wrap64 (x9_2 + 1))) = some (r1, r2) := H
                              have A18 := Aside0.mk A180
                              clear A180
                              have H' := Aside0.mk H
                              clear H
                              try go_wp2
                              have n0_ := Aside0.mk (Kd.R_drew HO_6.out)
                              have n1_ := Aside0.mk (blk_drew BK245.out)
                              have n2_ := Aside0.mk (below_drew1 HB.out)
                              clear HO_6
                              clear BK245
                              clear HB
                              have HO_6 := n0_
                              have BK245 := n1_
                              have HB := n2_
                              clear n0_ n1_ n2_
                              have p249 : 0 ≤ (x9_2 : Int) := of_decide_eq_true (by first | (with_reducible assumption) | assumption)
                              have q249 : x9_2 < (t246.length : Int) := of_decide_eq_true (by first | (with_reducible assumption) | assumption)
                              obtain ⟨ad249, e249, hx249_0⟩ := Kd.at_int (Kd.R_reads' HO_6.out).2.2 x9_2 p249 q249
                              cases e249
                              replace p249 := eq_true p249
                              replace q249 := eq_true q249
                              have p250 : 0 ≤ ((rd t246 x9_2) : Int) := of_decide_eq_true (by first | (with_reducible assumption) | assumption)
                              have q250 : (rd t246 x9_2) < (l0.length : Int) := of_decide_eq_true (by first | (with_reducible assumption) | assumption)
                              obtain ⟨ad250, A250_1, c250_1, e250, hx250_0, hx250_1, hx250_2, hl250_1, hi250_1⟩ := at_T36 HR0.out (rd t246 x9_2) p250 q250
                              have hw250_2 := hx250_2
                              have hw250_1 := hx250_1
                              have hw250_0 := hx250_0
                              cases e250
                              replace hx250_0 := (HB.out.cell (World.block_lt_of_cell? w _ hx250_0)).trans hx250_0
                              replace hx250_1 := (HB.out.cell (World.block_lt_of_cell? w _ hx250_1)).trans hx250_1
                              replace hx250_2 := (HB.out.cell (World.block_lt_of_cell? w _ hx250_2)).trans hx250_2
                              have HR250_1 := Aside0.mk hi250_1
                              have HC250_1 := Aside0.mk hl250_1
                              clear hi250_1 hl250_1
                              replace p250 := eq_true p250
                              replace q250 := eq_true q250
                              have p251 : 0 ≤ (x7_1 : Int) := of_decide_eq_true (by first | (with_reducible assumption) | assumption)
                              have q251 : x7_1 < (t246.length : Int) := of_decide_eq_true (by first | (with_reducible assumption) | assumption)
                              obtain ⟨ad251, e251, hx251_0⟩ := Kd.at_int (Kd.R_reads' HO_6.out).2.2 x7_1 p251 q251
                              obtain rfl : ad249 = ad251 := (by injection e251)
                              replace p251 := eq_true p251
                              replace q251 := eq_true q251
                              have p252 : 0 ≤ ((rd t246 x7_1) : Int) := of_decide_eq_true (by first | (with_reducible assumption) | assumption)
                              have q252 : (rd t246 x7_1) < (l0.length : Int) := of_decide_eq_true (by first | (with_reducible assumption) | assumption)
                              obtain ⟨ad252, A252_1, c252_1, e252, hx252_0, hx252_1, hx252_2, hl252_1, hi252_1⟩ := at_T36 HR0.out (rd t246 x7_1) p252 q252
                              have hw252_2 := hx252_2
                              have hw252_1 := hx252_1
                              have hw252_0 := hx252_0
                              obtain rfl : ad250 = ad252 := (by injection e252)
                              replace hx252_0 := (HB.out.cell (World.block_lt_of_cell? w _ hx252_0)).trans hx252_0
                              replace hx252_1 := (HB.out.cell (World.block_lt_of_cell? w _ hx252_1)).trans hx252_1
                              replace hx252_2 := (HB.out.cell (World.block_lt_of_cell? w _ hx252_2)).trans hx252_2
                              have HR252_1 := Aside0.mk hi252_1
                              have HC252_1 := Aside0.mk hl252_1
                              clear hi252_1 hl252_1
                              replace p252 := eq_true p252
                              replace q252 := eq_true q252
                              refine start_ (n := 21) (S := fun w' => w'.cell? (ad249.add (x9_2).toNat) = some (.int .i64 (rd t246 x9_2)) ∧ w'.cell? (ad250.add (((rd t246 x9_2)).toNat * 3)) = some (.string ((rd_T36 l0 (rd t246 x9_2)).f0)) ∧ w'.cell? ⟨(ad250.add (((rd t246 x9_2)).toNat * 3)).block, (ad250.add (((rd t246 x9_2)).toNat * 3)).off + 1, none⟩ = some (.slice A250_1 ((rd_T36 l0 (rd t246 x9_2)).f1).length c250_1) ∧ w'.cell? ⟨(ad250.add (((rd t246 x9_2)).toNat * 3)).block, (ad250.add (((rd t246 x9_2)).toNat * 3)).off + 2, none⟩ = some (.int .i64 ((rd_T36 l0 (rd t246 x9_2)).f2)) ∧ w'.cell? (ad249.add (x7_1).toNat) = some (.int .i64 (rd t246 x7_1)) ∧ w'.cell? (ad250.add (((rd t246 x7_1)).toNat * 3)) = some (.string ((rd_T36 l0 (rd t246 x7_1)).f0)) ∧ w'.cell? ⟨(ad250.add (((rd t246 x7_1)).toNat * 3)).block, (ad250.add (((rd t246 x7_1)).toNat * 3)).off + 1, none⟩ = some (.slice A252_1 ((rd_T36 l0 (rd t246 x7_1)).f1).length c252_1) ∧ w'.cell? ⟨(ad250.add (((rd t246 x7_1)).toNat * 3)).block, (ad250.add (((rd t246 x7_1)).toNat * 3)).off + 2, none⟩ = some (.int .i64 ((rd_T36 l0 (rd t246 x7_1)).f2))) (ds := []) #[false, false, false, false, false, false, false, false, false, false, false, false, false, false, false, false, false, false, false, false, false] (by kernel_rfl) rfl rfl ⟨hx249_0, ((HB.out.cell (World.block_lt_of_cell? w _ hw250_0)).trans hw250_0), ((HB.out.cell (World.block_lt_of_cell? w _ hw250_1)).trans hw250_1), ((HB.out.cell (World.block_lt_of_cell? w _ hw250_2)).trans hw250_2), hx251_0, ((HB.out.cell (World.block_lt_of_cell? w _ hw252_0)).trans hw252_0), ((HB.out.cell (World.block_lt_of_cell? w _ hw252_1)).trans hw252_1), ((HB.out.cell (World.block_lt_of_cell? w _ hw252_2)).trans hw252_2)⟩ (fun hHeld => ?_); refine with_tabW spec_l3Find.tab9 spec_l3Find.bits9 (fun HT_ HW_ => ?_)
                              generalize wr.drew = w19 at HO_6 BK245 HB HR250_1 HR252_1 hx249_0 hx250_0 hx250_1 hx250_2 hx251_0 hx252_0 hx252_1 hx252_2 hHeld ⊢
                              refine pure_ (i := 0) (N := some 25) (v := ?_) (a' := ?_) #[true, false, false, false, false, false, false, false, false, false, false, false, false, false, false, false, false, false, false, false, false] rfl rfl (any_of HT_.out (by kernel_rfl)) (fun _ _ _ h => h) (Or.inl ⟨by rfl, ?_⟩) ?_ ?_
                              rotate_left
                              · intro w'
                                go_simp
                                with_reducible rfl
                              rotate_left
                              · simp only [Act.put, List.setIfInBounds_toArray, List.set_cons_zero, List.set_cons_succ, i64_w, i32_w]
                                rfl
                              refine pure_ (i := 1) (N := some 26) (v := ?_) (a' := ?_) #[true, true, false, false, false, false, false, false, false, false, false, false, false, false, false, false, false, false, false, false, false] rfl rfl (any_of HT_.out (by kernel_rfl)) (fun _ _ _ h => h) (Or.inl ⟨by rfl, ?_⟩) ?_ ?_
                              rotate_left
                              · intro w'
                                go_simp
                                with_reducible rfl
                              rotate_left
                              · simp only [Act.put, List.setIfInBounds_toArray, List.set_cons_zero, List.set_cons_succ, i64_w, i32_w]
                                rfl
                              refine pure_ (i := 2) (N := some 27) (v := ?_) (a' := ?_) #[true, true, true, false, false, false, false, false, false, false, false, false, false, false, false, false, false, false, false, false, false] rfl rfl (any_of HT_.out (by kernel_rfl)) (fun _ _ _ h => h) (Or.inl ⟨by rfl, ?_⟩) ?_ ?_
                              rotate_left
                              · intro w'
                                go_simp
                                with_reducible rfl
                              rotate_left
                              · simp only [Act.put, List.setIfInBounds_toArray, List.set_cons_zero, List.set_cons_succ, i64_w, i32_w]
                                rfl
                              refine pure_ (i := 3) (N := some 28) (v := ?_) (a' := ?_) #[true, true, true, true, false, false, false, false, false, false, false, false, false, false, false, false, false, false, false, false, false] rfl rfl (any_of HT_.out (by kernel_rfl)) (fun _ _ _ h => h) (Or.inl ⟨by rfl, ?_⟩) ?_ ?_
                              rotate_left
                              · intro w'
                                go_simp
                                with_reducible rfl
                              rotate_left
                              · simp only [Act.put, List.setIfInBounds_toArray, List.set_cons_zero, List.set_cons_succ, i64_w, i32_w]
                                rfl
                              refine pure_ (i := 4) (N := some 29) (v := ?_) (a' := ?_) #[true, true, true, true, true, false, false, false, false, false, false, false, false, false, false, false, false, false, false, false, false] rfl rfl (any_of HT_.out (by kernel_rfl)) (fun _ _ _ h => h) (Or.inl ⟨by rfl, ?_⟩) ?_ ?_
                              rotate_left
                              · intro w'
                                go_simp
                                with_reducible rfl
                              rotate_left
                              · simp only [Act.put, List.setIfInBounds_toArray, List.set_cons_zero, List.set_cons_succ, i64_w, i32_w]
                                rfl
                              refine pure_ (i := 5) (N := some 30) (v := ?_) (a' := ?_) #[true, true, true, true, true, true, false, false, false, false, false, false, false, false, false, false, false, false, false, false, false] rfl rfl (any_of HT_.out (by kernel_rfl)) (fun _ _ _ h => h) (Or.inl ⟨by rfl, ?_⟩) ?_ ?_
                              rotate_left
                              · intro w'
                                go_simp
                                with_reducible rfl
                              rotate_left
                              · simp only [Act.put, List.setIfInBounds_toArray, List.set_cons_zero, List.set_cons_succ, i64_w, i32_w]
                                rfl
                              refine pure_ (i := 10) (N := some 35) (v := ?_) (a' := ?_) #[true, true, true, true, true, true, false, false, false, false, true, false, false, false, false, false, false, false, false, false, false] rfl rfl (any_of HT_.out (by kernel_rfl)) (fun _ _ _ h => h) (Or.inl ⟨by rfl, ?_⟩) ?_ ?_
                              rotate_left
                              · intro w'
                                go_simp
                                with_reducible rfl
                              rotate_left
                              · simp only [Act.put, List.setIfInBounds_toArray, List.set_cons_zero, List.set_cons_succ, i64_w, i32_w]
                                rfl
                              refine pure_ (i := 11) (N := some 36) (v := ?_) (a' := ?_) #[true, true, true, true, true, true, false, false, false, false, true, true, false, false, false, false, false, false, false, false, false] rfl rfl (any_of HT_.out (by kernel_rfl)) (fun _ _ _ h => h) (Or.inl ⟨by rfl, ?_⟩) ?_ ?_
                              rotate_left
                              · intro w'
                                go_simp
                                with_reducible rfl
                              rotate_left
                              · simp only [Act.put, List.setIfInBounds_toArray, List.set_cons_zero, List.set_cons_succ, i64_w, i32_w]
                                rfl
                              refine pure_ (i := 12) (N := some 37) (v := ?_) (a' := ?_) #[true, true, true, true, true, true, false, false, false, false, true, true, true, false, false, false, false, false, false, false, false] rfl rfl (any_of HT_.out (by kernel_rfl)) (fun _ _ _ h => h) (Or.inl ⟨by rfl, ?_⟩) ?_ ?_
                              rotate_left
                              · intro w'
                                go_simp
                                with_reducible rfl
                              rotate_left
                              · simp only [Act.put, List.setIfInBounds_toArray, List.set_cons_zero, List.set_cons_succ, i64_w, i32_w]
                                rfl
                              refine pure_ (i := 13) (N := some 38) (v := ?_) (a' := ?_) #[true, true, true, true, true, true, false, false, false, false, true, true, true, true, false, false, false, false, false, false, false] rfl rfl (any_of HT_.out (by kernel_rfl)) (fun _ _ _ h => h) (Or.inl ⟨by rfl, ?_⟩) ?_ ?_
                              rotate_left
                              · intro w'
                                go_simp
                                with_reducible rfl
                              rotate_left
                              · simp only [Act.put, List.setIfInBounds_toArray, List.set_cons_zero, List.set_cons_succ, i64_w, i32_w]
                                rfl
                              refine take_ (i := 6) (N := some 31) (v := ?_) (a' := ?_) #[true, true, true, true, true, true, true, false, false, false, true, true, true, true, false, false, false, false, false, false, false] rfl rfl (take_ofW HT_.out HW_.out (by kernel_rfl)) (fun _ _ _ h => h) (Or.inl ⟨by rfl, ?_⟩) hHeld ?_ ?_
                              rotate_left
                              · rintro w' ⟨s0, s1, s2, s3, s4, s5, s6, s7⟩
                                go_simp
                                with_reducible rfl
                              rotate_left
                              · simp only [Act.put, List.setIfInBounds_toArray, List.set_cons_zero, List.set_cons_succ, i64_w, i32_w]
                                rfl
                              refine pure_ (i := 7) (N := some 32) (v := ?_) (a' := ?_) #[true, true, true, true, true, true, true, true, false, false, true, true, true, true, false, false, false, false, false, false, false] rfl rfl (any_of HT_.out (by kernel_rfl)) (fun _ _ _ h => h) (Or.inl ⟨by rfl, ?_⟩) ?_ ?_
                              rotate_left
                              · intro w'
                                go_simp
                                with_reducible rfl
                              rotate_left
                              · simp only [Act.put, List.setIfInBounds_toArray, List.set_cons_zero, List.set_cons_succ, i64_w, i32_w]
                                rfl
                              refine pure_ (i := 8) (N := some 33) (v := ?_) (a' := ?_) #[true, true, true, true, true, true, true, true, true, false, true, true, true, true, false, false, false, false, false, false, false] rfl rfl (any_of HT_.out (by kernel_rfl)) (fun _ _ _ h => h) (Or.inl ⟨by rfl, ?_⟩) ?_ ?_
                              rotate_left
                              · intro w'
                                go_simp
                                with_reducible rfl
                              rotate_left
                              · simp only [Act.put, List.setIfInBounds_toArray, List.set_cons_zero, List.set_cons_succ, i64_w, i32_w]
                                rfl
                              refine take_ (i := 9) (N := some 34) (v := ?_) (a' := ?_) #[true, true, true, true, true, true, true, true, true, true, true, true, true, true, false, false, false, false, false, false, false] rfl rfl (take_ofW HT_.out HW_.out (by kernel_rfl)) (fun _ _ _ h => h) (Or.inl ⟨by rfl, ?_⟩) hHeld ?_ ?_
                              rotate_left
                              · rintro w' ⟨s0, s1, s2, s3, s4, s5, s6, s7⟩
                                go_simp
                                with_reducible rfl
                              rotate_left
                              · simp only [Act.put, List.setIfInBounds_toArray, List.set_cons_zero, List.set_cons_succ, i64_w, i32_w]
                                rfl
                              refine take_ (i := 14) (N := some 39) (v := ?_) (a' := ?_) #[true, true, true, true, true, true, true, true, true, true, true, true, true, true, true, false, false, false, false, false, false] rfl rfl (take_ofW HT_.out HW_.out (by kernel_rfl)) (fun _ _ _ h => h) (Or.inl ⟨by rfl, ?_⟩) hHeld ?_ ?_
                              rotate_left
                              · rintro w' ⟨s0, s1, s2, s3, s4, s5, s6, s7⟩
                                go_simp
                                with_reducible rfl
                              rotate_left
                              · simp only [Act.put, List.setIfInBounds_toArray, List.set_cons_zero, List.set_cons_succ, i64_w, i32_w]
                                rfl
                              refine pure_ (i := 15) (N := some 40) (v := ?_) (a' := ?_) #[true, true, true, true, true, true, true, true, true, true, true, true, true, true, true, true, false, false, false, false, false] rfl rfl (any_of HT_.out (by kernel_rfl)) (fun _ _ _ h => h) (Or.inl ⟨by rfl, ?_⟩) ?_ ?_
                              rotate_left
                              · intro w'
                                go_simp
                                with_reducible rfl
                              rotate_left
                              · simp only [Act.put, List.setIfInBounds_toArray, List.set_cons_zero, List.set_cons_succ, i64_w, i32_w]
                                rfl
                              refine pure_ (i := 16) (N := some 41) (v := ?_) (a' := ?_) #[true, true, true, true, true, true, true, true, true, true, true, true, true, true, true, true, true, false, false, false, false] rfl rfl (any_of HT_.out (by kernel_rfl)) (fun _ _ _ h => h) (Or.inl ⟨by rfl, ?_⟩) ?_ ?_
                              rotate_left
                              · intro w'
                                go_simp
                                with_reducible rfl
                              rotate_left
                              · simp only [Act.put, List.setIfInBounds_toArray, List.set_cons_zero, List.set_cons_succ, i64_w, i32_w]
                                rfl
                              refine take_ (i := 17) (N := some 42) (v := ?_) (a' := ?_) #[true, true, true, true, true, true, true, true, true, true, true, true, true, true, true, true, true, true, false, false, false] rfl rfl (take_ofW HT_.out HW_.out (by kernel_rfl)) (fun _ _ _ h => h) (Or.inl ⟨by rfl, ?_⟩) hHeld ?_ ?_
                              rotate_left
                              · rintro w' ⟨s0, s1, s2, s3, s4, s5, s6, s7⟩
                                go_simp
                                with_reducible rfl
                              rotate_left
                              · simp only [Act.put, List.setIfInBounds_toArray, List.set_cons_zero, List.set_cons_succ, i64_w, i32_w]
                                rfl
                              refine one_ (i := 18) (N := some 43) #[true, true, true, true, true, true, true, true, true, true, true, true, true, true, true, true, true, true, true, false, false] rfl rfl (one_of HT_.out (by kernel_rfl)) (by decide) (fun K hK => ?_)
                              refine goes_ Try.func83 (by kernel_rfl) rfl #[.slice A250_1 ((rd_T36 l0 (rd t246 x9_2)).f1).length c250_1, .slice A252_1 ((rd_T36 l0 (rd t246 x7_1)).f1).length c252_1] (by rfl) rfl rfl (by (try simp only [List.map_toArray, List.map_cons, List.map_nil]); first | done | rfl | (simp only [List.length_drop, List.length_take]; rfl)) ?_
                              with_reducible refine (spec_ScopesWithin.calls _ _ ((rd_T36 l0 (rd t246 x9_2)).f1) _ _ ((rd_T36 l0 (rd t246 x7_1)).f1) t253 _ ?side1 ?side2 ?side3 ?side4 A18.out).mono ?_
                              (case side1 => repeat (first | exact (Kd.C_below HR250_1.out HB.out) | (with_reducible refine Kd.C_alloc ?_ _) | (with_reducible refine Kd.C_drewN ?_ _) | (with_reducible refine Kd.C_drew ?_)))
                              (case side2 => exact HC250_1.out)
                              (case side3 => repeat (first | exact (Kd.C_below HR252_1.out HB.out) | (with_reducible refine Kd.C_alloc ?_ _) | (with_reducible refine Kd.C_drewN ?_ _) | (with_reducible refine Kd.C_drew ?_)))
                              (case side4 => exact HC252_1.out)
                              rintro e w20 ⟨rfl, hb⟩
                              have HS0_ := (hb.cell (World.block_lt_of_cell? _ _ (hHeld.1))).trans (hHeld.1)
                              have HS4_ := (hb.cell (World.block_lt_of_cell? _ _ (hHeld.2.2.2.2.1))).trans (hHeld.2.2.2.2.1)
                              refine ⟨_, rfl, ?_⟩
                              have n0_ := Aside0.mk (Kd.R_below (by (with_reducible repeat (first | apply Kd.R_alloc | apply Kd.R_drewN | apply Kd.R_drew)); exact HO_6.out) hb)
                              have n1_ := Aside0.mk (blk_below (g := gb245) (o := .cells #[.int .i64 a1_0, .string a1_1, .int .i64 a1_2, .slice A1_3 l1_3.length c1_3, .slice A1_4 l1_4.length c1_4] 30 (0, 0)) (by (with_reducible repeat (first | refine blk_drewN ?_ _ | refine blk_drew ?_ | refine blk_alloc ?_ _)); exact BK245.out) hb)
                              have n2_ := Aside0.mk (below_step (by repeat (first | (with_reducible first | exact HB.out | apply below_alloc | apply pw_below_drewN | apply below_drew1 | refine below_set ?_ GE245.out) | exact HB.out)) hb)
                              clear HO_6
                              clear BK245
                              clear HB
                              have HO_6 := n0_
                              have BK245 := n1_
                              have HB := n2_
                              clear n0_ n1_ n2_
                              (try clear hb)
                              (try clear hb2)
                              (try clear hk)
                              (try clear hi)
                              refine hK.out _ _ ⟨HS0_, ((HB.out.cell (World.block_lt_of_cell? w _ hw250_0)).trans hw250_0), ((HB.out.cell (World.block_lt_of_cell? w _ hw250_1)).trans hw250_1), ((HB.out.cell (World.block_lt_of_cell? w _ hw250_2)).trans hw250_2), HS4_, ((HB.out.cell (World.block_lt_of_cell? w _ hw252_0)).trans hw252_0), ((HB.out.cell (World.block_lt_of_cell? w _ hw252_1)).trans hw252_1), ((HB.out.cell (World.block_lt_of_cell? w _ hw252_2)).trans hw252_2)⟩ (fun hHeld => ?_)
                              clear hK K
                              refine norm_ (a' := ?_) ?_ ?_
                              rotate_left
                              · show Act.put _ (some 43) _ = _
                                simp only [Act.put, List.setIfInBounds_toArray, List.set_cons_zero, List.set_cons_succ, i64_w, i32_w]
                                rfl
                              refine pure_ (i := 19) (N := some 44) (v := ?_) (a' := ?_) #[true, true, true, true, true, true, true, true, true, true, true, true, true, true, true, true, true, true, true, true, false] rfl rfl (any_of HT_.out (by kernel_rfl)) (fun _ _ _ h => h) (Or.inl ⟨by rfl, ?_⟩) ?_ ?_
                              rotate_left
                              · intro w'
                                go_simp
                                with_reducible rfl
                              rotate_left
                              · simp only [Act.put, List.setIfInBounds_toArray, List.set_cons_zero, List.set_cons_succ, i64_w, i32_w]
                                rfl
                              refine pure_ (i := 20) (N := some 8) (v := ?_) (a' := ?_) #[true, true, true, true, true, true, true, true, true, true, true, true, true, true, true, true, true, true, true, true, true] rfl rfl (any_of HT_.out (by kernel_rfl)) (fun _ _ _ h => h) (Or.inl ⟨by rfl, ?_⟩) ?_ ?_
                              rotate_left
                              · intro w'
                                go_simp
                                with_reducible rfl
                              rotate_left
                              · simp only [Act.put, List.setIfInBounds_toArray, List.set_cons_zero, List.set_cons_succ, i64_w, i32_w]
                                rfl
                              refine done_ (done_of HT_.out (by kernel_rfl)) ?_
                              try go_wp2
                              go_roundg k2
                              case measure => have := HK1.out; have := HK2.out; omega
                              case rel => exact ⟨(t253), (wrap64 (x9_2 + 1)), (by first | rfl | (simp; done) | (simp [*]; done)), (by first | rfl | (simp; done) | (simp [*]; done)), H', ⟨by have := HK1.out; have := HK2.out; omega⟩, ⟨by (with_reducible repeat (first | apply Kd.R_alloc | apply Kd.R_drewN | apply Kd.R_drew)); exact HO_6.out⟩, ⟨by (with_reducible repeat (first | refine blk_drewN ?_ _ | refine blk_drew ?_ | refine blk_alloc ?_ _)); exact BK245.out⟩, ⟨by repeat (first | (with_reducible first | exact HB.out | apply below_alloc | apply pw_below_drewN | apply below_drew1 | refine below_set ?_ GE245.out) | exact HB.out)⟩⟩
                            · rw [if_neg c17] at H
                              exact absurd H (by simp)
                          · rw [if_neg c16] at H
                            exact absurd H (by simp)
                        · rw [if_neg c15] at H
                          exact absurd H (by simp)
                      · rw [if_neg c14] at H
                        exact absurd H (by simp)
                    · rw [if_neg c13] at H
                      exact absurd H (by simp)
                  · rw [if_neg c12] at H
                    exact absurd H (by simp)
                · rw [if_neg c11] at H
                  exact absurd H (by simp)
              · replace c10 := Bool.eq_false_iff.mpr c10
                subst c10
                have H1 : (spec_l3Find.l1 k2 l0 t246 x7_1 false (wrap64 (x9_2 + 1))) = some (r1, r2) := by rw [if_neg (show ¬ (false = true) by decide)] at H; exact H
                clear H
                have H := H1
                clear H1
                have H' := Aside0.mk H
                clear H
                try go_wp2
                have n0_ := Aside0.mk (Kd.R_drew HO_6.out)
                have n1_ := Aside0.mk (blk_drew BK245.out)
                have n2_ := Aside0.mk (below_drew1 HB.out)
                clear HO_6
                clear BK245
                clear HB
                have HO_6 := n0_
                have BK245 := n1_
                have HB := n2_
                clear n0_ n1_ n2_
                refine start_ (n := 21) (S := fun w' => True) (ds := []) #[false, false, false, false, false, false, false, false, false, false, false, false, false, false, false, false, false, false, false, false, false] (by kernel_rfl) rfl rfl trivial (fun hHeld => ?_); refine with_tabW spec_l3Find.tab9 spec_l3Find.bits9 (fun HT_ HW_ => ?_)
                generalize wr.drew = w21 at HO_6 BK245 HB hHeld ⊢
                refine pure_ (i := 0) (N := some 25) (v := ?_) (a' := ?_) #[true, false, false, false, false, false, false, false, false, false, false, false, false, false, false, false, false, false, false, false, false] rfl rfl (any_of HT_.out (by kernel_rfl)) (fun _ _ _ h => h) (Or.inl ⟨by rfl, ?_⟩) ?_ ?_
                rotate_left
                · intro w'
                  go_simp
                  with_reducible rfl
                rotate_left
                · simp only [Act.put, List.setIfInBounds_toArray, List.set_cons_zero, List.set_cons_succ, i64_w, i32_w]
                  rfl
                refine pure_ (i := 1) (N := some 26) (v := ?_) (a' := ?_) #[true, true, false, false, false, false, false, false, false, false, false, false, false, false, false, false, false, false, false, false, false] rfl rfl (any_of HT_.out (by kernel_rfl)) (fun _ _ _ h => h) (Or.inl ⟨by rfl, ?_⟩) ?_ ?_
                rotate_left
                · intro w'
                  go_simp
                  with_reducible rfl
                rotate_left
                · simp only [Act.put, List.setIfInBounds_toArray, List.set_cons_zero, List.set_cons_succ, i64_w, i32_w]
                  rfl
                refine pure_ (i := 2) (N := some 27) (v := undef) (a' := ?_) #[true, true, true, false, false, false, false, false, false, false, false, false, false, false, false, false, false, false, false, false, false] rfl rfl (any_of HT_.out (by kernel_rfl)) (fun _ _ _ h => h) (Or.inr ⟨by rfl, rfl⟩) ?_ ?_
                rotate_left
                · simp only [Act.put, List.setIfInBounds_toArray, List.set_cons_zero, List.set_cons_succ, i64_w, i32_w]
                  rfl
                refine pure_ (i := 3) (N := some 28) (v := undef) (a' := ?_) #[true, true, true, true, false, false, false, false, false, false, false, false, false, false, false, false, false, false, false, false, false] rfl rfl (any_of HT_.out (by kernel_rfl)) (fun _ _ _ h => h) (Or.inr ⟨by rfl, rfl⟩) ?_ ?_
                rotate_left
                · simp only [Act.put, List.setIfInBounds_toArray, List.set_cons_zero, List.set_cons_succ, i64_w, i32_w]
                  rfl
                refine pure_ (i := 4) (N := some 29) (v := undef) (a' := ?_) #[true, true, true, true, true, false, false, false, false, false, false, false, false, false, false, false, false, false, false, false, false] rfl rfl (any_of HT_.out (by kernel_rfl)) (fun _ _ _ h => h) (Or.inr ⟨by rfl, rfl⟩) ?_ ?_
                rotate_left
                · simp only [Act.put, List.setIfInBounds_toArray, List.set_cons_zero, List.set_cons_succ, i64_w, i32_w]
                  rfl
                refine pure_ (i := 5) (N := some 30) (v := undef) (a' := ?_) #[true, true, true, true, true, true, false, false, false, false, false, false, false, false, false, false, false, false, false, false, false] rfl rfl (any_of HT_.out (by kernel_rfl)) (fun _ _ _ h => h) (Or.inr ⟨by rfl, rfl⟩) ?_ ?_
                rotate_left
                · simp only [Act.put, List.setIfInBounds_toArray, List.set_cons_zero, List.set_cons_succ, i64_w, i32_w]
                  rfl
                refine pure_ (i := 6) (N := some 31) (v := undef) (a' := ?_) #[true, true, true, true, true, true, true, false, false, false, false, false, false, false, false, false, false, false, false, false, false] rfl rfl (any_of HT_.out (by kernel_rfl)) (fun _ _ _ h => h) (Or.inr ⟨by rfl, rfl⟩) ?_ ?_
                rotate_left
                · simp only [Act.put, List.setIfInBounds_toArray, List.set_cons_zero, List.set_cons_succ, i64_w, i32_w]
                  rfl
                refine pure_ (i := 7) (N := some 32) (v := undef) (a' := ?_) #[true, true, true, true, true, true, true, true, false, false, false, false, false, false, false, false, false, false, false, false, false] rfl rfl (any_of HT_.out (by kernel_rfl)) (fun _ _ _ h => h) (Or.inr ⟨by rfl, rfl⟩) ?_ ?_
                rotate_left
                · simp only [Act.put, List.setIfInBounds_toArray, List.set_cons_zero, List.set_cons_succ, i64_w, i32_w]
                  rfl
                refine pure_ (i := 8) (N := some 33) (v := undef) (a' := ?_) #[true, true, true, true, true, true, true, true, true, false, false, false, false, false, false, false, false, false, false, false, false] rfl rfl (any_of HT_.out (by kernel_rfl)) (fun _ _ _ h => h) (Or.inr ⟨by rfl, rfl⟩) ?_ ?_
                rotate_left
                · simp only [Act.put, List.setIfInBounds_toArray, List.set_cons_zero, List.set_cons_succ, i64_w, i32_w]
                  rfl
                refine pure_ (i := 9) (N := some 34) (v := undef) (a' := ?_) #[true, true, true, true, true, true, true, true, true, true, false, false, false, false, false, false, false, false, false, false, false] rfl rfl (any_of HT_.out (by kernel_rfl)) (fun _ _ _ h => h) (Or.inr ⟨by rfl, rfl⟩) ?_ ?_
                rotate_left
                · simp only [Act.put, List.setIfInBounds_toArray, List.set_cons_zero, List.set_cons_succ, i64_w, i32_w]
                  rfl
                refine pure_ (i := 10) (N := some 35) (v := undef) (a' := ?_) #[true, true, true, true, true, true, true, true, true, true, true, false, false, false, false, false, false, false, false, false, false] rfl rfl (any_of HT_.out (by kernel_rfl)) (fun _ _ _ h => h) (Or.inr ⟨by rfl, rfl⟩) ?_ ?_
                rotate_left
                · simp only [Act.put, List.setIfInBounds_toArray, List.set_cons_zero, List.set_cons_succ, i64_w, i32_w]
                  rfl
                refine pure_ (i := 11) (N := some 36) (v := undef) (a' := ?_) #[true, true, true, true, true, true, true, true, true, true, true, true, false, false, false, false, false, false, false, false, false] rfl rfl (any_of HT_.out (by kernel_rfl)) (fun _ _ _ h => h) (Or.inr ⟨by rfl, rfl⟩) ?_ ?_
                rotate_left
                · simp only [Act.put, List.setIfInBounds_toArray, List.set_cons_zero, List.set_cons_succ, i64_w, i32_w]
                  rfl
                refine pure_ (i := 12) (N := some 37) (v := undef) (a' := ?_) #[true, true, true, true, true, true, true, true, true, true, true, true, true, false, false, false, false, false, false, false, false] rfl rfl (any_of HT_.out (by kernel_rfl)) (fun _ _ _ h => h) (Or.inr ⟨by rfl, rfl⟩) ?_ ?_
                rotate_left
                · simp only [Act.put, List.setIfInBounds_toArray, List.set_cons_zero, List.set_cons_succ, i64_w, i32_w]
                  rfl
                refine pure_ (i := 13) (N := some 38) (v := undef) (a' := ?_) #[true, true, true, true, true, true, true, true, true, true, true, true, true, true, false, false, false, false, false, false, false] rfl rfl (any_of HT_.out (by kernel_rfl)) (fun _ _ _ h => h) (Or.inr ⟨by rfl, rfl⟩) ?_ ?_
                rotate_left
                · simp only [Act.put, List.setIfInBounds_toArray, List.set_cons_zero, List.set_cons_succ, i64_w, i32_w]
                  rfl
                refine pure_ (i := 14) (N := some 39) (v := undef) (a' := ?_) #[true, true, true, true, true, true, true, true, true, true, true, true, true, true, true, false, false, false, false, false, false] rfl rfl (any_of HT_.out (by kernel_rfl)) (fun _ _ _ h => h) (Or.inr ⟨by rfl, rfl⟩) ?_ ?_
                rotate_left
                · simp only [Act.put, List.setIfInBounds_toArray, List.set_cons_zero, List.set_cons_succ, i64_w, i32_w]
                  rfl
                refine pure_ (i := 15) (N := some 40) (v := undef) (a' := ?_) #[true, true, true, true, true, true, true, true, true, true, true, true, true, true, true, true, false, false, false, false, false] rfl rfl (any_of HT_.out (by kernel_rfl)) (fun _ _ _ h => h) (Or.inr ⟨by rfl, rfl⟩) ?_ ?_
                rotate_left
                · simp only [Act.put, List.setIfInBounds_toArray, List.set_cons_zero, List.set_cons_succ, i64_w, i32_w]
                  rfl
                refine pure_ (i := 16) (N := some 41) (v := undef) (a' := ?_) #[true, true, true, true, true, true, true, true, true, true, true, true, true, true, true, true, true, false, false, false, false] rfl rfl (any_of HT_.out (by kernel_rfl)) (fun _ _ _ h => h) (Or.inr ⟨by rfl, rfl⟩) ?_ ?_
                rotate_left
                · simp only [Act.put, List.setIfInBounds_toArray, List.set_cons_zero, List.set_cons_succ, i64_w, i32_w]
                  rfl
                refine pure_ (i := 17) (N := some 42) (v := undef) (a' := ?_) #[true, true, true, true, true, true, true, true, true, true, true, true, true, true, true, true, true, true, false, false, false] rfl rfl (any_of HT_.out (by kernel_rfl)) (fun _ _ _ h => h) (Or.inr ⟨by rfl, rfl⟩) ?_ ?_
                rotate_left
                · simp only [Act.put, List.setIfInBounds_toArray, List.set_cons_zero, List.set_cons_succ, i64_w, i32_w]
                  rfl
                refine pure_ (i := 18) (N := some 43) (v := undef) (a' := ?_) #[true, true, true, true, true, true, true, true, true, true, true, true, true, true, true, true, true, true, true, false, false] rfl rfl (any_of HT_.out (by kernel_rfl)) (fun _ _ _ h => h) (Or.inr ⟨by rfl, rfl⟩) ?_ ?_
                rotate_left
                · simp only [Act.put, List.setIfInBounds_toArray, List.set_cons_zero, List.set_cons_succ, i64_w, i32_w]
                  rfl
                refine pure_ (i := 19) (N := some 44) (v := ?_) (a' := ?_) #[true, true, true, true, true, true, true, true, true, true, true, true, true, true, true, true, true, true, true, true, false] rfl rfl (any_of HT_.out (by kernel_rfl)) (fun _ _ _ h => h) (Or.inl ⟨by rfl, ?_⟩) ?_ ?_
                rotate_left
                · intro w'
                  go_simp
                  with_reducible rfl
                rotate_left
                · simp only [Act.put, List.setIfInBounds_toArray, List.set_cons_zero, List.set_cons_succ, i64_w, i32_w]
                  rfl
                refine pure_ (i := 20) (N := some 8) (v := ?_) (a' := ?_) #[true, true, true, true, true, true, true, true, true, true, true, true, true, true, true, true, true, true, true, true, true] rfl rfl (any_of HT_.out (by kernel_rfl)) (fun _ _ _ h => h) (Or.inl ⟨by rfl, ?_⟩) ?_ ?_
                rotate_left
                · intro w'
                  go_simp
                  with_reducible rfl
                rotate_left
                · simp only [Act.put, List.setIfInBounds_toArray, List.set_cons_zero, List.set_cons_succ, i64_w, i32_w]
                  rfl
                refine done_ (done_of HT_.out (by kernel_rfl)) ?_
                try go_wp2
                go_roundg k2
                case measure => have := HK1.out; have := HK2.out; omega
                case rel => exact ⟨(false), (wrap64 (x9_2 + 1)), (by first | rfl | (simp; done) | (simp [*]; done)), (by first | rfl | (simp; done) | (simp [*]; done)), H', ⟨by have := HK1.out; have := HK2.out; omega⟩, ⟨by (with_reducible repeat (first | apply Kd.R_alloc | apply Kd.R_drewN | apply Kd.R_drew)); exact HO_6.out⟩, ⟨by (with_reducible repeat (first | refine blk_drewN ?_ _ | refine blk_drew ?_ | refine blk_alloc ?_ _)); exact BK245.out⟩, ⟨by repeat (first | (with_reducible first | exact HB.out | apply below_alloc | apply pw_below_drewN | apply below_drew1 | refine below_set ?_ GE245.out) | exact HB.out)⟩⟩
            · rw [if_neg c9] at H
              have c9b0 : decide (x9_2 < (t246.length : Int)) = false := decide_eq_false c9
              clear c9
              by_cases c22 : x8_2 = true
              · subst c22
                have H1 : (if 0 ≤ x7_1 then (if x7_1 < (t246.length : Int) then (some (rd t246 x7_1, 1)) else (none)) else (none)) = some (r1, r2) := by rw [if_pos rfl] at H; exact H
                clear H
                have H := H1
                clear H1
                by_cases c23 : 0 ≤ x7_1
                · rw [if_pos c23] at H
                  have c23b0 : decide (0 ≤ x7_1) = true := decide_eq_true c23
                  clear c23
                  by_cases c24 : x7_1 < (t246.length : Int)
                  · rw [if_pos c24] at H
                    have c24b0 : decide (x7_1 < (t246.length : Int)) = true := decide_eq_true c24
                    clear c24
                    simp only [Option.some.injEq, Prod.mk.injEq] at H
                    obtain ⟨rfl, rfl⟩ := H
                    have p254 : 0 ≤ (x7_1 : Int) := of_decide_eq_true (by first | (with_reducible assumption) | assumption)
                    have q254 : x7_1 < (t246.length : Int) := of_decide_eq_true (by first | (with_reducible assumption) | assumption)
                    obtain ⟨ad254, e254, hx254_0⟩ := Kd.at_int (Kd.R_reads' HO_6.out).2.2 x7_1 p254 q254
                    cases e254
                    replace p254 := eq_true p254
                    replace q254 := eq_true q254
                    go_wp2
                    go_ret2
                    exact ⟨by first | rfl | (simp [errW_none, errW_some] <;> rfl) | (simp [*, errW_none, errW_some] <;> rfl), by repeat (first | (with_reducible first | exact HB.out | apply below_alloc | apply pw_below_drewN | apply below_drew1 | refine below_set ?_ GE245.out) | exact HB.out)⟩
                  · rw [if_neg c24] at H
                    exact absurd H (by simp)
                · rw [if_neg c23] at H
                  exact absurd H (by simp)
              · replace c22 := Bool.eq_false_iff.mpr c22
                subst c22
                have H1 : (spec_l3Find.l0 k2 l0 t246 (wrap64 (x7_1 + 1))) = some (r1, r2) := by rw [if_neg (show ¬ (false = true) by decide)] at H; exact H
                clear H
                have H := H1
                clear H1
                have H' := Aside0.mk H
                clear H
                go_wp2
                go_roundg k2
                case measure => have := HK1.out; have := HK2.out; omega
                case rel => exact ⟨(wrap64 (x7_1 + 1)), (by first | rfl | (simp; done) | (simp [*]; done)), H', ⟨by have := HK1.out; have := HK2.out; omega⟩, ⟨by (with_reducible repeat (first | apply Kd.R_alloc | apply Kd.R_drewN | apply Kd.R_drew)); exact HO_6.out⟩, ⟨by (with_reducible repeat (first | refine blk_drewN ?_ _ | refine blk_drew ?_ | refine blk_alloc ?_ _)); exact BK245.out⟩, ⟨by repeat (first | (with_reducible first | exact HB.out | apply below_alloc | apply pw_below_drewN | apply below_drew1 | refine below_set ?_ GE245.out) | exact HB.out)⟩⟩
      · rw [if_neg c7] at H
        have c7b0 : decide (x7_1 < (t246.length : Int)) = false := decide_eq_false c7
        clear c7
        by_cases c25 : (t246.length : Int) > 0
        · rw [if_pos c25] at H
          have c25b0 : decide (0 < (t246.length : Int)) = true := decide_eq_true c25
          have c25b1 : decide (0 < t246.length) = true := decide_eq_true (by omega)
          clear c25
          simp only [Option.some.injEq, Prod.mk.injEq] at H
          obtain ⟨rfl, rfl⟩ := H
          obtain ⟨Ao26, co26, eo26⟩ := Kd.R_slice HO_6.out
          subst eo26
          go_wp2
          go_ret2
          exact ⟨by first | rfl | (simp [errW_none, errW_some] <;> rfl) | (simp [*, errW_none, errW_some] <;> rfl), by repeat (first | (with_reducible first | exact HB.out | apply below_alloc | apply pw_below_drewN | apply below_drew1 | refine below_set ?_ GE245.out) | exact HB.out)⟩
        · rw [if_neg c25] at H
          have c25b0 : decide (0 < (t246.length : Int)) = false := decide_eq_false c25
          have c25b1 : decide (0 < t246.length) = false := decide_eq_false (by omega)
          clear c25
          simp only [Option.some.injEq, Prod.mk.injEq] at H
          obtain ⟨rfl, rfl⟩ := H
          obtain ⟨Ao27, co27, eo27⟩ := Kd.R_slice HO_6.out
          subst eo27
          go_wp2
          go_ret2
          exact ⟨by first | rfl | (simp [errW_none, errW_some] <;> rfl) | (simp [*, errW_none, errW_some] <;> rfl), by repeat (first | (with_reducible first | exact HB.out | apply below_alloc | apply pw_below_drewN | apply below_drew1 | refine below_set ?_ GE245.out) | exact HB.out)⟩

noncomputable def spec_FindName.j0 : Nat → List (S36) → Bool → Int → ByteArray → Int → List Int → List (S30) → Option (Int × Int)
  | 0, _, _, _, _, _, _, _ => none
  | k + 1, x0, x15, x256000, x256001, x256002, x256003, x256004 => if x15 = true then (some (0, 0)) else ((spec_l3Find.f k x0 x256000 x256001 x256002 x256003 x256004).bind fun bt258 => (if bt258.2 = 1 then (if 0 ≤ bt258.1 then (if bt258.1 < (x0.length : Int) then (some ((rd_T36 x0 bt258.1).f2, bt258.2)) else (none)) else (none)) else (some (0, bt258.2))))
noncomputable def spec_FindName.f (k : Nat) (l0 : List (S36)) (a1_0 : Int) (a1_1 : ByteArray) (a1_2 : Int) (l1_3 : List Int) (l1_4 : List (S30)) : Option (Int × Int) := (spec_BindsValid.f k l0).bind fun t256 => (if t256 = true then ((spec_l3Is.f a1_0 a1_1 a1_2 l1_3 l1_4).bind fun t257 => (spec_FindName.j0 k l0 (!t257) a1_0 a1_1 a1_2 l1_3 l1_4)) else (spec_FindName.j0 k l0 true a1_0 a1_1 a1_2 l1_3 l1_4))
theorem spec_FindName.mono_l : ∀ k, (∀ y0 y1 y2 y3 y4 y5 y6, LeO (spec_FindName.j0 k y0 y1 y2 y3 y4 y5 y6) (spec_FindName.j0 (k + 1) y0 y1 y2 y3 y4 y5 y6))
  | 0 => fun _ _ _ _ _ _ _ r h => by simp [spec_FindName.j0] at h
  | k + 1 => by
    have ih0 := spec_FindName.mono_l k
    · intro y0 y1 y2 y3 y4 y5 y6
      unfold spec_FindName.j0
      repeat' first
      | (with_reducible exact ih0 _ _ _ _ _ _ _)
      | (with_reducible exact spec_BindsValid.mono _ _)
      | (with_reducible exact spec_l3Find.mono _ _ _ _ _ _ _)
      | (with_reducible exact LeO.refl _)
      | (with_reducible exact LeO.none _)
      | (with_reducible refine LeO.ite ?_ ?_)
      | (with_reducible refine LeO.bind ?_ (fun _ => ?_))
      | exact ih0 _ _ _ _ _ _ _
      | exact spec_BindsValid.mono _ _
      | exact spec_l3Find.mono _ _ _ _ _ _ _
      | exact LeO.none _
      | refine LeO.ite ?_ ?_
      | refine LeO.bind ?_ (fun _ => ?_)
theorem spec_FindName.mono : ∀ a0 a1 a2 a3 a4 a5 k, LeO (spec_FindName.f k a0 a1 a2 a3 a4 a5) (spec_FindName.f (k + 1) a0 a1 a2 a3 a4 a5) := by
  intro a0 a1 a2 a3 a4 a5 k
  have ih0 := spec_FindName.mono_l k
  unfold spec_FindName.f
  repeat' first
      | (with_reducible exact ih0 _ _ _ _ _ _ _)
      | (with_reducible exact spec_BindsValid.mono _ _)
      | (with_reducible exact spec_l3Find.mono _ _ _ _ _ _ _)
      | (with_reducible exact LeO.refl _)
      | (with_reducible exact LeO.none _)
      | (with_reducible refine LeO.ite ?_ ?_)
      | (with_reducible refine LeO.bind ?_ (fun _ => ?_))
      | exact ih0 _ _ _ _ _ _ _
      | exact spec_BindsValid.mono _ _
      | exact spec_l3Find.mono _ _ _ _ _ _ _
      | exact LeO.none _
      | refine LeO.ite ?_ ?_
      | refine LeO.bind ?_ (fun _ => ?_)
set_option maxHeartbeats 8000000 in
set_option maxRecDepth 100000 in
theorem spec_FindName.calls (k : Nat) (A0 : Option Addr) (c0 : Nat) (l0 : List (S36)) (a1_0 : Int) (a1_1 : ByteArray) (a1_2 : Int) (A1_3 : Option Addr) (c1_3 : Nat) (l1_3 : List Int) (A1_4 : Option Addr) (c1_4 : Nat) (l1_4 : List (S30)) (r1 : Int) (r2 : Int) (w : World) (hr0 : Kd.C k36 w A0 l0.length l0) (hc0 : l0.length ≤ c0) (hr1_3 : Kd.C (Kd.int .i64) w A1_3 l1_3.length l1_3) (hc1_3 : l1_3.length ≤ c1_3) (hr1_4 : Kd.C k30 w A1_4 l1_4.length l1_4) (hc1_4 : l1_4.length ≤ c1_4) (h : spec_FindName.f k l0 a1_0 a1_1 a1_2 l1_3 l1_4 = some (r1, r2)) :
    Calls Try.prog 20 #[.slice A0 l0.length c0, .agg #[.int .i64 a1_0, .string a1_1, .int .i64 a1_2, .slice A1_3 l1_3.length c1_3, .slice A1_4 l1_4.length c1_4]] w fun e w' => e = .returned (.tuple #[.int .i64 r1, .int .i64 r2]) ∧ Below w.heap.size w w' := by
  have hu30 := Try.underlying30
  have HR0 := Aside0.mk hr0
  have HC0 := Aside0.mk hc0
  clear hr0 hc0
  have HR1_3 := Aside0.mk hr1_3
  have HC1_3 := Aside0.mk hc1_3
  clear hr1_3 hc1_3
  have HR1_4 := Aside0.mk hr1_4
  have HC1_4 := Aside0.mk hc1_4
  clear hr1_4 hc1_4
  have HB := Aside0.mk (Below.refl w.heap.size w)
  have H : ((spec_BindsValid.f k l0).bind fun t256 => (if t256 = true then ((spec_l3Is.f a1_0 a1_1 a1_2 l1_3 l1_4).bind fun t257 => (spec_FindName.j0 k l0 (!t257) a1_0 a1_1 a1_2 l1_3 l1_4)) else (spec_FindName.j0 k l0 true a1_0 a1_1 a1_2 l1_3 l1_4))) = some (r1, r2) := h
  clear h
  have HC3 := Aside0.mk H
  clear H
  go_enter Try.func20, Try.ntmps20
  go_upto_region 1 with (first | ((with_reducible refine gate_dst (N := 3) rfl ?_); refine box_event ?hg (N := 3) ?hd (cs := #[.int .i64 a1_0, .string a1_1, .int .i64 a1_2, .slice A1_3 l1_3.length c1_3, .slice A1_4 l1_4.length c1_4]) (t := 30) ?hr ?_; (case hd => rfl); (case hg => rfl); (case hr => first | (go_simp; done) | (go_simp; rfl)); intro gb255 hg w4 hbox hb; have n0_ := Aside0.mk (below_step (by repeat (first | (with_reducible first | exact HB.out | apply below_alloc | apply pw_below_drewN | apply below_drew1) | exact HB.out)) hb); have n1_ := Aside0.mk (hbox); have n2_ := Aside0.mk ((by rw [hg]; exact (below_size (by repeat (first | (with_reducible first | exact HB.out | apply below_alloc | apply pw_below_drewN | apply below_drew1) | exact HB.out))) : w.heap.size ≤ gb255)); have n3_ := Aside0.mk ((by rw [hg]; exact (below_size (by repeat (first | (with_reducible first | exact HB.out | apply below_alloc | apply pw_below_drewN | apply below_drew1) | exact HB.out))) : w.heap.size ≤ gb255)); clear HB; have HB := n0_; have BK255 := n1_; have GW255 := n2_; have GE255 := n3_; clear n0_ n1_ n2_ n3_; clear hb hbox hg))
  (try simp only [Act.put, List.setIfInBounds_toArray, List.set_cons_zero, List.set_cons_succ])
  go_cut [15] (fun v15 wc => ∃ (kq : Nat) (x15_2 : Bool), v15 = .bool x15_2 ∧ Aside0 (spec_FindName.j0 kq l0 x15_2 a1_0 a1_1 a1_2 l1_3 l1_4 = some (r1, r2)) ∧ Aside0 (kq ≤ k) ∧ Aside0 (wc.heap[gb255]? = some (.cells #[.int .i64 a1_0, .string a1_1, .int .i64 a1_2, (.slice A1_3 l1_3.length c1_3), (.slice A1_4 l1_4.length c1_4)] 30 (0, 0))) ∧ Aside0 (Below w.heap.size w wc))
  case first =>
    have H := HC3.out
    clear HC3
    replace H := Option.bind_eq_some_iff.mp H
    obtain ⟨t256, A50, H⟩ := H
    replace H : (if t256 = true then ((spec_l3Is.f a1_0 a1_1 a1_2 l1_3 l1_4).bind fun t257 => (spec_FindName.j0 k l0 (!t257) a1_0 a1_1 a1_2 l1_3 l1_4)) else (spec_FindName.j0 k l0 true a1_0 a1_1 a1_2 l1_3 l1_4)) = some (r1, r2) := H
    have A5 := Aside0.mk A50
    clear A50
    by_cases c6 : t256 = true
    · subst c6
      have H1 : ((spec_l3Is.f a1_0 a1_1 a1_2 l1_3 l1_4).bind fun t257 => (spec_FindName.j0 k l0 (!t257) a1_0 a1_1 a1_2 l1_3 l1_4)) = some (r1, r2) := by rw [if_pos rfl] at H; exact H
      clear H
      have H := H1
      clear H1
      replace H := Option.bind_eq_some_iff.mp H
      obtain ⟨t257, A70, H⟩ := H
      replace H : (spec_FindName.j0 k l0 (!t257) a1_0 a1_1 a1_2 l1_3 l1_4) = some (r1, r2) := H
      have A7 := Aside0.mk A70
      clear A70
      have H' := Aside0.mk H
      clear H
      go_wp2_with (first | ((with_reducible refine gate_callee (f := 17) rfl ?_); refine goesL_ (some 9) rfl rfl Try.func17 (by kernel_rfl) rfl #[.slice A0 l0.length c0] rfl (by (try simp only [List.map_toArray, List.map_cons, List.map_nil]); first | done | rfl | (simp only [List.length_drop, List.length_take]; rfl)) ?_; (with_reducible refine (spec_BindsValid.calls k _ _ l0 true _ ?side1 ?side2 A5.out).mono ?_); (case side1 => repeat (first | exact (Kd.C_below HR0.out HB.out) | (with_reducible refine Kd.C_alloc ?_ _) | (with_reducible refine Kd.C_drewN ?_ _) | (with_reducible refine Kd.C_drew ?_))); (case side2 => exact HC0.out); rintro e w8 ⟨rfl, hb⟩; refine ⟨_, rfl, ?_⟩; have n0_ := Aside0.mk (blk_below (g := gb255) (o := .cells #[.int .i64 a1_0, .string a1_1, .int .i64 a1_2, .slice A1_3 l1_3.length c1_3, .slice A1_4 l1_4.length c1_4] 30 (0, 0)) (by (with_reducible repeat (first | refine blk_drewN ?_ _ | refine blk_drew ?_ | refine blk_alloc ?_ _)); exact BK255.out) hb); have n1_ := Aside0.mk (below_step (by repeat (first | (with_reducible first | exact HB.out | apply below_alloc | apply pw_below_drewN | apply below_drew1 | refine below_set ?_ GE255.out) | exact HB.out)) hb); clear BK255; clear HB; have BK255 := n0_; have HB := n1_; clear n0_ n1_; (try clear hb); (try clear hb2); (try clear hk); (try clear hi); have hcz9_0 : w8.cell? ⟨gb255, 0, none⟩ = some (.int .i64 a1_0) := (blk_cell BK255.out 0).trans rfl; have hcz9_1 : w8.cell? ⟨gb255, 1, none⟩ = some (.string a1_1) := (blk_cell BK255.out 1).trans rfl; have hcz9_2 : w8.cell? ⟨gb255, 2, none⟩ = some (.int .i64 a1_2) := (blk_cell BK255.out 2).trans rfl; have hcz9_3 : w8.cell? ⟨gb255, 3, none⟩ = some (.slice A1_3 l1_3.length c1_3) := (blk_cell BK255.out 3).trans rfl; have hcz9_4 : w8.cell? ⟨gb255, 4, none⟩ = some (.slice A1_4 l1_4.length c1_4) := (blk_cell BK255.out 4).trans rfl; have hfz9_0 := blk_frozen BK255.out 0; have hfz9_1 := blk_frozen BK255.out 1; have hfz9_2 := blk_frozen BK255.out 2; have hfz9_3 := blk_frozen BK255.out 3; have hfz9_4 := blk_frozen BK255.out 4) | (go_at_call 54; (with_reducible refine (spec_l3Is.calls a1_0 a1_1 a1_2 _ _ l1_3 _ _ l1_4 t257 _ ?side1 ?side2 ?side3 ?side4 A7.out).mono ?_); (case side1 => repeat (first | exact (Kd.C_below HR1_3.out HB.out) | (with_reducible refine Kd.C_alloc ?_ _) | (with_reducible refine Kd.C_drewN ?_ _) | (with_reducible refine Kd.C_drew ?_))); (case side2 => exact HC1_3.out); (case side3 => repeat (first | exact (Kd.C_below HR1_4.out HB.out) | (with_reducible refine Kd.C_alloc ?_ _) | (with_reducible refine Kd.C_drewN ?_ _) | (with_reducible refine Kd.C_drew ?_))); (case side4 => exact HC1_4.out); rintro e w10 ⟨rfl, hb⟩; have n0_ := Aside0.mk (blk_below (g := gb255) (o := .cells #[.int .i64 a1_0, .string a1_1, .int .i64 a1_2, .slice A1_3 l1_3.length c1_3, .slice A1_4 l1_4.length c1_4] 30 (0, 0)) (by (with_reducible repeat (first | refine blk_drewN ?_ _ | refine blk_drew ?_ | refine blk_alloc ?_ _)); exact BK255.out) hb); have n1_ := Aside0.mk (below_step (by repeat (first | (with_reducible first | exact HB.out | apply below_alloc | apply pw_below_drewN | apply below_drew1 | refine below_set ?_ GE255.out) | exact HB.out)) hb); clear BK255; clear HB; have BK255 := n0_; have HB := n1_; clear n0_ n1_; (try clear hb); (try clear hb2); (try clear hk); (try clear hi)))
      go_meet
      case rel => exact ⟨_, (!t257), (by first | rfl | (simp; done) | (simp [*]; done)), H', ⟨by first | omega | exact Nat.le_refl _⟩, ⟨by (with_reducible repeat (first | refine blk_drewN ?_ _ | refine blk_drew ?_ | refine blk_alloc ?_ _)); exact BK255.out⟩, ⟨by repeat (first | (with_reducible first | exact HB.out | apply below_alloc | apply pw_below_drewN | apply below_drew1 | refine below_set ?_ GE255.out) | exact HB.out)⟩⟩
    · replace c6 := Bool.eq_false_iff.mpr c6
      subst c6
      have H1 : (spec_FindName.j0 k l0 true a1_0 a1_1 a1_2 l1_3 l1_4) = some (r1, r2) := by rw [if_neg (show ¬ (false = true) by decide)] at H; exact H
      clear H
      have H := H1
      clear H1
      have H' := Aside0.mk H
      clear H
      go_wp2_with (first | ((with_reducible refine gate_callee (f := 17) rfl ?_); refine goesL_ (some 9) rfl rfl Try.func17 (by kernel_rfl) rfl #[.slice A0 l0.length c0] rfl (by (try simp only [List.map_toArray, List.map_cons, List.map_nil]); first | done | rfl | (simp only [List.length_drop, List.length_take]; rfl)) ?_; (with_reducible refine (spec_BindsValid.calls k _ _ l0 false _ ?side1 ?side2 A5.out).mono ?_); (case side1 => repeat (first | exact (Kd.C_below HR0.out HB.out) | (with_reducible refine Kd.C_alloc ?_ _) | (with_reducible refine Kd.C_drewN ?_ _) | (with_reducible refine Kd.C_drew ?_))); (case side2 => exact HC0.out); rintro e w11 ⟨rfl, hb⟩; refine ⟨_, rfl, ?_⟩; have n0_ := Aside0.mk (blk_below (g := gb255) (o := .cells #[.int .i64 a1_0, .string a1_1, .int .i64 a1_2, .slice A1_3 l1_3.length c1_3, .slice A1_4 l1_4.length c1_4] 30 (0, 0)) (by (with_reducible repeat (first | refine blk_drewN ?_ _ | refine blk_drew ?_ | refine blk_alloc ?_ _)); exact BK255.out) hb); have n1_ := Aside0.mk (below_step (by repeat (first | (with_reducible first | exact HB.out | apply below_alloc | apply pw_below_drewN | apply below_drew1 | refine below_set ?_ GE255.out) | exact HB.out)) hb); clear BK255; clear HB; have BK255 := n0_; have HB := n1_; clear n0_ n1_; (try clear hb); (try clear hb2); (try clear hk); (try clear hi)))
      go_meet
      case rel => exact ⟨_, (true), (by first | rfl | (simp; done) | (simp [*]; done)), H', ⟨by first | omega | exact Nat.le_refl _⟩, ⟨by (with_reducible repeat (first | refine blk_drewN ?_ _ | refine blk_drew ?_ | refine blk_alloc ?_ _)); exact BK255.out⟩, ⟨by repeat (first | (with_reducible first | exact HB.out | apply below_alloc | apply pw_below_drewN | apply below_drew1 | refine below_set ?_ GE255.out) | exact HB.out)⟩⟩
  case rest =>
    clear HC3
    try clear c1
    try clear c2
    try clear p2
    try clear c6
    try clear hcz9_0
    try clear hcz9_1
    try clear hcz9_2
    try clear hcz9_3
    try clear hcz9_4
    try clear hfz9_0
    try clear hfz9_1
    try clear hfz9_2
    try clear hfz9_3
    try clear hfz9_4
    obtain ⟨kq, x15_2, rfl, HA, HJ2, BK255, HB⟩ := hcut
    cases kq with
    | zero => exact absurd HA.out (by simp [spec_FindName.j0])
    | succ kj2 =>
      have H := HA.out
      clear HA
      simp only [spec_FindName.j0] at H
      by_cases c12 : x15_2 = true
      · subst c12
        have H1 : (some (0, 0)) = some (r1, r2) := by rw [if_pos rfl] at H; exact H
        clear H
        have H := H1
        clear H1
        simp only [Option.some.injEq, Prod.mk.injEq] at H
        obtain ⟨rfl, rfl⟩ := H
        go_wp2
        go_ret2
        exact ⟨by first | rfl | (simp [errW_none, errW_some] <;> rfl) | (simp [*, errW_none, errW_some] <;> rfl), by repeat (first | (with_reducible first | exact HB.out | apply below_alloc | apply pw_below_drewN | apply below_drew1 | refine below_set ?_ GE255.out) | exact HB.out)⟩
      · replace c12 := Bool.eq_false_iff.mpr c12
        subst c12
        have H1 : ((spec_l3Find.f kj2 l0 a1_0 a1_1 a1_2 l1_3 l1_4).bind fun bt258 => (if bt258.2 = 1 then (if 0 ≤ bt258.1 then (if bt258.1 < (l0.length : Int) then (some ((rd_T36 l0 bt258.1).f2, bt258.2)) else (none)) else (none)) else (some (0, bt258.2)))) = some (r1, r2) := by rw [if_neg (show ¬ (false = true) by decide)] at H; exact H
        clear H
        have H := H1
        clear H1
        replace H := Option.bind_eq_some_iff.mp H
        obtain ⟨⟨t258, t259⟩, A130, H⟩ := H
        replace H : (if t259 = 1 then (if 0 ≤ t258 then (if t258 < (l0.length : Int) then (some ((rd_T36 l0 t258).f2, t259)) else (none)) else (none)) else (some (0, t259))) = some (r1, r2) := H
        have A13 := Aside0.mk A130
        clear A130
        by_cases c14 : t259 = 1
        · rw [if_pos c14] at H
          have c14b0 : (t259 == 1) = true := beq_iff_eq.mpr c14
          have c14b1 : (t259 != 1) = false := bne_eq_false_iff_eq.mpr c14
          clear c14
          by_cases c15 : 0 ≤ t258
          · rw [if_pos c15] at H
            have c15b0 : decide (0 ≤ t258) = true := decide_eq_true c15
            clear c15
            by_cases c16 : t258 < (l0.length : Int)
            · rw [if_pos c16] at H
              have c16b0 : decide (t258 < (l0.length : Int)) = true := decide_eq_true c16
              clear c16
              simp only [Option.some.injEq, Prod.mk.injEq] at H
              obtain ⟨rfl, rfl⟩ := H
              have hcz17_0 : wc.cell? ⟨gb255, 0, none⟩ = some (.int .i64 a1_0) := (blk_cell BK255.out 0).trans rfl
              have hcz17_1 : wc.cell? ⟨gb255, 1, none⟩ = some (.string a1_1) := (blk_cell BK255.out 1).trans rfl
              have hcz17_2 : wc.cell? ⟨gb255, 2, none⟩ = some (.int .i64 a1_2) := (blk_cell BK255.out 2).trans rfl
              have hcz17_3 : wc.cell? ⟨gb255, 3, none⟩ = some (.slice A1_3 l1_3.length c1_3) := (blk_cell BK255.out 3).trans rfl
              have hcz17_4 : wc.cell? ⟨gb255, 4, none⟩ = some (.slice A1_4 l1_4.length c1_4) := (blk_cell BK255.out 4).trans rfl
              have hfz17_0 := blk_frozen BK255.out 0
              have hfz17_1 := blk_frozen BK255.out 1
              have hfz17_2 := blk_frozen BK255.out 2
              have hfz17_3 := blk_frozen BK255.out 3
              have hfz17_4 := blk_frozen BK255.out 4
              go_wp2_with (first | ((with_reducible refine gate_callee (f := 55) rfl ?_); refine goesL_ (some 19) rfl rfl Try.func55 (by kernel_rfl) rfl #[.slice A0 l0.length c0, .agg #[.int .i64 a1_0, .string a1_1, .int .i64 a1_2, .slice A1_3 l1_3.length c1_3, .slice A1_4 l1_4.length c1_4]] rfl (by (try simp only [List.map_toArray, List.map_cons, List.map_nil]); first | done | rfl | (simp only [List.length_drop, List.length_take]; rfl)) ?_; (with_reducible refine (spec_l3Find.calls kj2 _ _ l0 a1_0 a1_1 a1_2 _ _ l1_3 _ _ l1_4 t258 t259 _ ?side1 ?side2 ?side3 ?side4 ?side5 ?side6 A13.out).mono ?_); (case side1 => repeat (first | exact (Kd.C_below HR0.out HB.out) | (with_reducible refine Kd.C_alloc ?_ _) | (with_reducible refine Kd.C_drewN ?_ _) | (with_reducible refine Kd.C_drew ?_))); (case side2 => exact HC0.out); (case side3 => repeat (first | exact (Kd.C_below HR1_3.out HB.out) | (with_reducible refine Kd.C_alloc ?_ _) | (with_reducible refine Kd.C_drewN ?_ _) | (with_reducible refine Kd.C_drew ?_))); (case side4 => exact HC1_3.out); (case side5 => repeat (first | exact (Kd.C_below HR1_4.out HB.out) | (with_reducible refine Kd.C_alloc ?_ _) | (with_reducible refine Kd.C_drewN ?_ _) | (with_reducible refine Kd.C_drew ?_))); (case side6 => exact HC1_4.out); rintro e w18 ⟨rfl, hb⟩; refine ⟨_, rfl, ?_⟩; have n0_ := Aside0.mk (blk_below (g := gb255) (o := .cells #[.int .i64 a1_0, .string a1_1, .int .i64 a1_2, .slice A1_3 l1_3.length c1_3, .slice A1_4 l1_4.length c1_4] 30 (0, 0)) (by (with_reducible repeat (first | refine blk_drewN ?_ _ | refine blk_drew ?_ | refine blk_alloc ?_ _)); exact BK255.out) hb); have n1_ := Aside0.mk (below_step (by repeat (first | (with_reducible first | exact HB.out | apply below_alloc | apply pw_below_drewN | apply below_drew1 | refine below_set ?_ GE255.out) | exact HB.out)) hb); clear BK255; clear HB; have BK255 := n0_; have HB := n1_; clear n0_ n1_; (try clear hb); (try clear hb2); (try clear hk); (try clear hi); have p260 : 0 ≤ (t258 : Int) := of_decide_eq_true (by first | (with_reducible assumption) | assumption); have q260 : t258 < (l0.length : Int) := of_decide_eq_true (by first | (with_reducible assumption) | assumption); obtain ⟨ad260, A260_1, c260_1, e260, hx260_0, hx260_1, hx260_2, hl260_1, hi260_1⟩ := at_T36 HR0.out t258 p260 q260; cases e260; replace hx260_0 := (HB.out.cell (World.block_lt_of_cell? w _ hx260_0)).trans hx260_0; replace hx260_1 := (HB.out.cell (World.block_lt_of_cell? w _ hx260_1)).trans hx260_1; replace hx260_2 := (HB.out.cell (World.block_lt_of_cell? w _ hx260_2)).trans hx260_2; have HR260_1 := Aside0.mk hi260_1; have HC260_1 := Aside0.mk hl260_1; clear hi260_1 hl260_1; replace p260 := eq_true p260; replace q260 := eq_true q260))
              go_ret2
              exact ⟨by first | rfl | (simp [errW_none, errW_some] <;> rfl) | (simp [*, errW_none, errW_some] <;> rfl), by repeat (first | (with_reducible first | exact HB.out | apply below_alloc | apply pw_below_drewN | apply below_drew1 | refine below_set ?_ GE255.out) | exact HB.out)⟩
            · rw [if_neg c16] at H
              exact absurd H (by simp)
          · rw [if_neg c15] at H
            exact absurd H (by simp)
        · rw [if_neg c14] at H
          have c14b0 : (t259 == 1) = false := beq_eq_false_iff_ne.mpr c14
          have c14b1 : (t259 != 1) = true := bne_iff_ne.mpr c14
          simp only [Option.some.injEq, Prod.mk.injEq] at H
          obtain ⟨rfl, rfl⟩ := H
          have hcz19_0 : wc.cell? ⟨gb255, 0, none⟩ = some (.int .i64 a1_0) := (blk_cell BK255.out 0).trans rfl
          have hcz19_1 : wc.cell? ⟨gb255, 1, none⟩ = some (.string a1_1) := (blk_cell BK255.out 1).trans rfl
          have hcz19_2 : wc.cell? ⟨gb255, 2, none⟩ = some (.int .i64 a1_2) := (blk_cell BK255.out 2).trans rfl
          have hcz19_3 : wc.cell? ⟨gb255, 3, none⟩ = some (.slice A1_3 l1_3.length c1_3) := (blk_cell BK255.out 3).trans rfl
          have hcz19_4 : wc.cell? ⟨gb255, 4, none⟩ = some (.slice A1_4 l1_4.length c1_4) := (blk_cell BK255.out 4).trans rfl
          have hfz19_0 := blk_frozen BK255.out 0
          have hfz19_1 := blk_frozen BK255.out 1
          have hfz19_2 := blk_frozen BK255.out 2
          have hfz19_3 := blk_frozen BK255.out 3
          have hfz19_4 := blk_frozen BK255.out 4
          go_wp2_with (first | ((with_reducible refine gate_callee (f := 55) rfl ?_); refine goesL_ (some 19) rfl rfl Try.func55 (by kernel_rfl) rfl #[.slice A0 l0.length c0, .agg #[.int .i64 a1_0, .string a1_1, .int .i64 a1_2, .slice A1_3 l1_3.length c1_3, .slice A1_4 l1_4.length c1_4]] rfl (by (try simp only [List.map_toArray, List.map_cons, List.map_nil]); first | done | rfl | (simp only [List.length_drop, List.length_take]; rfl)) ?_; (with_reducible refine (spec_l3Find.calls kj2 _ _ l0 a1_0 a1_1 a1_2 _ _ l1_3 _ _ l1_4 t258 t259 _ ?side1 ?side2 ?side3 ?side4 ?side5 ?side6 A13.out).mono ?_); (case side1 => repeat (first | exact (Kd.C_below HR0.out HB.out) | (with_reducible refine Kd.C_alloc ?_ _) | (with_reducible refine Kd.C_drewN ?_ _) | (with_reducible refine Kd.C_drew ?_))); (case side2 => exact HC0.out); (case side3 => repeat (first | exact (Kd.C_below HR1_3.out HB.out) | (with_reducible refine Kd.C_alloc ?_ _) | (with_reducible refine Kd.C_drewN ?_ _) | (with_reducible refine Kd.C_drew ?_))); (case side4 => exact HC1_3.out); (case side5 => repeat (first | exact (Kd.C_below HR1_4.out HB.out) | (with_reducible refine Kd.C_alloc ?_ _) | (with_reducible refine Kd.C_drewN ?_ _) | (with_reducible refine Kd.C_drew ?_))); (case side6 => exact HC1_4.out); rintro e w20 ⟨rfl, hb⟩; refine ⟨_, rfl, ?_⟩; have n0_ := Aside0.mk (blk_below (g := gb255) (o := .cells #[.int .i64 a1_0, .string a1_1, .int .i64 a1_2, .slice A1_3 l1_3.length c1_3, .slice A1_4 l1_4.length c1_4] 30 (0, 0)) (by (with_reducible repeat (first | refine blk_drewN ?_ _ | refine blk_drew ?_ | refine blk_alloc ?_ _)); exact BK255.out) hb); have n1_ := Aside0.mk (below_step (by repeat (first | (with_reducible first | exact HB.out | apply below_alloc | apply pw_below_drewN | apply below_drew1 | refine below_set ?_ GE255.out) | exact HB.out)) hb); clear BK255; clear HB; have BK255 := n0_; have HB := n1_; clear n0_ n1_; (try clear hb); (try clear hb2); (try clear hk); (try clear hi)))
          go_ret2
          exact ⟨by first | rfl | (simp [errW_none, errW_some] <;> rfl) | (simp [*, errW_none, errW_some] <;> rfl), by repeat (first | (with_reducible first | exact HB.out | apply below_alloc | apply pw_below_drewN | apply below_drew1 | refine below_set ?_ GE255.out) | exact HB.out)⟩

end Go.Proofs.Ytcbomlmlindjdaa.Q
end
section
namespace Go.Proofs.Ytcbomlmlindjdaa.Q
open Go.RowKit Go.Proofs.YtcbomlmlindjdaaW.PrintWords Go.Proofs.YtcbomlmlindjdaaW.PrintLast Go.Proofs.YtcbomlmlindjdaaW.PrintMore
attribute [local go_sem] max2_int min2_int max_two min_two max_three min_three max_four min_four   -- for this text's walks alone
set_option linter.unusedVariables false
set_option linter.unusedSimpArgs false

noncomputable def impl_FittingBinds.f (k : Nat) (l0 : List (S36)) (a1_0 : Int) (a1_1 : ByteArray) (a1_2 : Int) (l1_3 : List Int) (l1_4 : List (S30)) : Option (List Int) := (impl_BindsValid.f l0).bind fun t296 => (if t296 = true then ((impl_isName.f a1_0 a1_1 a1_2 l1_3 l1_4).bind fun t297 => (if t297 = true then ((impl_fitting.f k l0 a1_0 a1_1 a1_2 l1_3 l1_4).bind fun t298 => (some t298)) else (some ([] : List Int)))) else (some ([] : List Int)))
theorem impl_FittingBinds.mono : ∀ a0 a1 a2 a3 a4 a5 k, LeO (impl_FittingBinds.f k a0 a1 a2 a3 a4 a5) (impl_FittingBinds.f (k + 1) a0 a1 a2 a3 a4 a5) := by
  intro a0 a1 a2 a3 a4 a5 k
  unfold impl_FittingBinds.f
  repeat' first
      | (with_reducible exact impl_fitting.mono _ _ _ _ _ _ _)
      | (with_reducible exact LeO.refl _)
      | (with_reducible exact LeO.none _)
      | (with_reducible refine LeO.ite ?_ ?_)
      | (with_reducible refine LeO.bind ?_ (fun _ => ?_))
      | exact impl_fitting.mono _ _ _ _ _ _ _
      | exact LeO.none _
      | refine LeO.ite ?_ ?_
      | refine LeO.bind ?_ (fun _ => ?_)
set_option maxHeartbeats 8000000 in
set_option maxRecDepth 100000 in
theorem impl_FittingBinds.calls (k : Nat) (A0 : Option Addr) (c0 : Nat) (l0 : List (S36)) (a1_0 : Int) (a1_1 : ByteArray) (a1_2 : Int) (A1_3 : Option Addr) (c1_3 : Nat) (l1_3 : List Int) (A1_4 : Option Addr) (c1_4 : Nat) (l1_4 : List (S30)) (r : List Int) (w : World) (hr0 : Kd.C k36 w A0 l0.length l0) (hc0 : l0.length ≤ c0) (hr1_3 : Kd.C (Kd.int .i64) w A1_3 l1_3.length l1_3) (hc1_3 : l1_3.length ≤ c1_3) (hr1_4 : Kd.C k30 w A1_4 l1_4.length l1_4) (hc1_4 : l1_4.length ≤ c1_4) (h : impl_FittingBinds.f k l0 a1_0 a1_1 a1_2 l1_3 l1_4 = some r) :
    Calls Try.prog 25 #[.slice A0 l0.length c0, .agg #[.int .i64 a1_0, .string a1_1, .int .i64 a1_2, .slice A1_3 l1_3.length c1_3, .slice A1_4 l1_4.length c1_4]] w fun e w' => ∃ v0_ : Value, e = .returned (v0_) ∧ Kd.R (Kd.int .i64) 3 w' w.heap.size (fun _ => True) v0_ r ∧ Below w.heap.size w w' := by
  have hu30 := Try.underlying30
  have HR0 := Aside0.mk hr0
  have HC0 := Aside0.mk hc0
  clear hr0 hc0
  have HR1_3 := Aside0.mk hr1_3
  have HC1_3 := Aside0.mk hc1_3
  clear hr1_3 hc1_3
  have HR1_4 := Aside0.mk hr1_4
  have HC1_4 := Aside0.mk hc1_4
  clear hr1_4 hc1_4
  have HB := Aside0.mk (Below.refl w.heap.size w)
  have H : ((impl_BindsValid.f l0).bind fun t296 => (if t296 = true then ((impl_isName.f a1_0 a1_1 a1_2 l1_3 l1_4).bind fun t297 => (if t297 = true then ((impl_fitting.f k l0 a1_0 a1_1 a1_2 l1_3 l1_4).bind fun t298 => (some t298)) else (some ([] : List Int)))) else (some ([] : List Int)))) = some r := h
  clear h
  replace H := Option.bind_eq_some_iff.mp H
  obtain ⟨t296, A30, H⟩ := H
  replace H : (if t296 = true then ((impl_isName.f a1_0 a1_1 a1_2 l1_3 l1_4).bind fun t297 => (if t297 = true then ((impl_fitting.f k l0 a1_0 a1_1 a1_2 l1_3 l1_4).bind fun t298 => (some t298)) else (some ([] : List Int)))) else (some ([] : List Int))) = some r := H
  have A3 := Aside0.mk A30
  clear A30
  by_cases c4 : t296 = true
  · subst c4
    have H1 : ((impl_isName.f a1_0 a1_1 a1_2 l1_3 l1_4).bind fun t297 => (if t297 = true then ((impl_fitting.f k l0 a1_0 a1_1 a1_2 l1_3 l1_4).bind fun t298 => (some t298)) else (some ([] : List Int)))) = some r := by rw [if_pos rfl] at H; exact H
    clear H
    have H := H1
    clear H1
    replace H := Option.bind_eq_some_iff.mp H
    obtain ⟨t297, A50, H⟩ := H
    replace H : (if t297 = true then ((impl_fitting.f k l0 a1_0 a1_1 a1_2 l1_3 l1_4).bind fun t298 => (some t298)) else (some ([] : List Int))) = some r := H
    have A5 := Aside0.mk A50
    clear A50
    by_cases c6 : t297 = true
    · subst c6
      have H1 : ((impl_fitting.f k l0 a1_0 a1_1 a1_2 l1_3 l1_4).bind fun t298 => (some t298)) = some r := by rw [if_pos rfl] at H; exact H
      clear H
      have H := H1
      clear H1
      replace H := Option.bind_eq_some_iff.mp H
      obtain ⟨t298, A70, H⟩ := H
      replace H : (some t298) = some r := H
      have A7 := Aside0.mk A70
      clear A70
      obtain rfl := Option.some.inj H
      go_enter Try.func25, Try.ntmps25
      go_wp2_with (first | ((with_reducible refine gate_dst (N := 3) rfl ?_); refine box_event ?hg (N := 3) ?hd (cs := #[.int .i64 a1_0, .string a1_1, .int .i64 a1_2, .slice A1_3 l1_3.length c1_3, .slice A1_4 l1_4.length c1_4]) (t := 30) ?hr ?_; (case hd => rfl); (case hg => rfl); (case hr => first | (go_simp; done) | (go_simp; rfl)); intro gb295 hg w8 hbox hb; have n0_ := Aside0.mk (below_step (by repeat (first | (with_reducible first | exact HB.out | apply below_alloc | apply pw_below_drewN | apply below_drew1) | exact HB.out)) hb); have n1_ := Aside0.mk (hbox); have n2_ := Aside0.mk ((by rw [hg]; exact (below_size (by repeat (first | (with_reducible first | exact HB.out | apply below_alloc | apply pw_below_drewN | apply below_drew1) | exact HB.out))) : w.heap.size ≤ gb295)); have n3_ := Aside0.mk ((by rw [hg]; exact (below_size (by repeat (first | (with_reducible first | exact HB.out | apply below_alloc | apply pw_below_drewN | apply below_drew1) | exact HB.out))) : w.heap.size ≤ gb295)); clear HB; have HB := n0_; have BK295 := n1_; have GW295 := n2_; have GE295 := n3_; clear n0_ n1_ n2_ n3_; clear hb hbox hg) | ((with_reducible refine gate_callee (f := 16) rfl ?_); refine goesL_ (some 6) rfl rfl Try.func16 (by kernel_rfl) rfl #[.slice A0 l0.length c0] rfl (by (try simp only [List.map_toArray, List.map_cons, List.map_nil]); first | done | rfl | (simp only [List.length_drop, List.length_take]; rfl)) ?_; (with_reducible refine (impl_BindsValid.calls _ _ l0 true _ ?side1 ?side2 A3.out).mono ?_); (case side1 => repeat (first | exact (Kd.C_below HR0.out HB.out) | (with_reducible refine Kd.C_alloc ?_ _) | (with_reducible refine Kd.C_drewN ?_ _) | (with_reducible refine Kd.C_drew ?_))); (case side2 => exact HC0.out); rintro e w9 ⟨rfl, hb⟩; refine ⟨_, rfl, ?_⟩; have n0_ := Aside0.mk (blk_below (g := gb295) (o := .cells #[.int .i64 a1_0, .string a1_1, .int .i64 a1_2, .slice A1_3 l1_3.length c1_3, .slice A1_4 l1_4.length c1_4] 30 (0, 0)) (by (with_reducible repeat (first | refine blk_drewN ?_ _ | refine blk_drew ?_ | refine blk_alloc ?_ _)); exact BK295.out) hb); have n1_ := Aside0.mk (below_step (by repeat (first | (with_reducible first | exact HB.out | apply below_alloc | apply pw_below_drewN | apply below_drew1 | refine below_set ?_ GE295.out) | exact HB.out)) hb); clear BK295; clear HB; have BK295 := n0_; have HB := n1_; clear n0_ n1_; (try clear hb); (try clear hb2); (try clear hk); (try clear hi); have hcz10_0 : w9.cell? ⟨gb295, 0, none⟩ = some (.int .i64 a1_0) := (blk_cell BK295.out 0).trans rfl; have hcz10_1 : w9.cell? ⟨gb295, 1, none⟩ = some (.string a1_1) := (blk_cell BK295.out 1).trans rfl; have hcz10_2 : w9.cell? ⟨gb295, 2, none⟩ = some (.int .i64 a1_2) := (blk_cell BK295.out 2).trans rfl; have hcz10_3 : w9.cell? ⟨gb295, 3, none⟩ = some (.slice A1_3 l1_3.length c1_3) := (blk_cell BK295.out 3).trans rfl; have hcz10_4 : w9.cell? ⟨gb295, 4, none⟩ = some (.slice A1_4 l1_4.length c1_4) := (blk_cell BK295.out 4).trans rfl; have hfz10_0 := blk_frozen BK295.out 0; have hfz10_1 := blk_frozen BK295.out 1; have hfz10_2 := blk_frozen BK295.out 2; have hfz10_3 := blk_frozen BK295.out 3; have hfz10_4 := blk_frozen BK295.out 4) | (go_at_call 52; (with_reducible refine (impl_isName.calls a1_0 a1_1 a1_2 _ _ l1_3 _ _ l1_4 true _ ?side1 ?side2 ?side3 ?side4 A5.out).mono ?_); (case side1 => repeat (first | exact (Kd.C_below HR1_3.out HB.out) | (with_reducible refine Kd.C_alloc ?_ _) | (with_reducible refine Kd.C_drewN ?_ _) | (with_reducible refine Kd.C_drew ?_))); (case side2 => exact HC1_3.out); (case side3 => repeat (first | exact (Kd.C_below HR1_4.out HB.out) | (with_reducible refine Kd.C_alloc ?_ _) | (with_reducible refine Kd.C_drewN ?_ _) | (with_reducible refine Kd.C_drew ?_))); (case side4 => exact HC1_4.out); rintro e w11 ⟨rfl, hb⟩; have n0_ := Aside0.mk (blk_below (g := gb295) (o := .cells #[.int .i64 a1_0, .string a1_1, .int .i64 a1_2, .slice A1_3 l1_3.length c1_3, .slice A1_4 l1_4.length c1_4] 30 (0, 0)) (by (with_reducible repeat (first | refine blk_drewN ?_ _ | refine blk_drew ?_ | refine blk_alloc ?_ _)); exact BK295.out) hb); have n1_ := Aside0.mk (below_step (by repeat (first | (with_reducible first | exact HB.out | apply below_alloc | apply pw_below_drewN | apply below_drew1 | refine below_set ?_ GE295.out) | exact HB.out)) hb); clear BK295; clear HB; have BK295 := n0_; have HB := n1_; clear n0_ n1_; (try clear hb); (try clear hb2); (try clear hk); (try clear hi); have hcz12_0 : w11.cell? ⟨gb295, 0, none⟩ = some (.int .i64 a1_0) := (blk_cell BK295.out 0).trans rfl; have hcz12_1 : w11.cell? ⟨gb295, 1, none⟩ = some (.string a1_1) := (blk_cell BK295.out 1).trans rfl; have hcz12_2 : w11.cell? ⟨gb295, 2, none⟩ = some (.int .i64 a1_2) := (blk_cell BK295.out 2).trans rfl; have hcz12_3 : w11.cell? ⟨gb295, 3, none⟩ = some (.slice A1_3 l1_3.length c1_3) := (blk_cell BK295.out 3).trans rfl; have hcz12_4 : w11.cell? ⟨gb295, 4, none⟩ = some (.slice A1_4 l1_4.length c1_4) := (blk_cell BK295.out 4).trans rfl; have hfz12_0 := blk_frozen BK295.out 0; have hfz12_1 := blk_frozen BK295.out 1; have hfz12_2 := blk_frozen BK295.out 2; have hfz12_3 := blk_frozen BK295.out 3; have hfz12_4 := blk_frozen BK295.out 4) | ((with_reducible refine gate_callee (f := 60) rfl ?_); refine goesL_ (some 15) rfl rfl Try.func60 (by kernel_rfl) rfl #[.slice A0 l0.length c0, .agg #[.int .i64 a1_0, .string a1_1, .int .i64 a1_2, .slice A1_3 l1_3.length c1_3, .slice A1_4 l1_4.length c1_4]] rfl (by (try simp only [List.map_toArray, List.map_cons, List.map_nil]); first | done | rfl | (simp only [List.length_drop, List.length_take]; rfl)) ?_; (with_reducible refine (impl_fitting.calls k _ _ l0 a1_0 a1_1 a1_2 _ _ l1_3 _ _ l1_4 t298 _ ?side1 ?side2 ?side3 ?side4 ?side5 ?side6 A7.out).mono ?_); (case side1 => repeat (first | exact (Kd.C_below HR0.out HB.out) | (with_reducible refine Kd.C_alloc ?_ _) | (with_reducible refine Kd.C_drewN ?_ _) | (with_reducible refine Kd.C_drew ?_))); (case side2 => exact HC0.out); (case side3 => repeat (first | exact (Kd.C_below HR1_3.out HB.out) | (with_reducible refine Kd.C_alloc ?_ _) | (with_reducible refine Kd.C_drewN ?_ _) | (with_reducible refine Kd.C_drew ?_))); (case side4 => exact HC1_3.out); (case side5 => repeat (first | exact (Kd.C_below HR1_4.out HB.out) | (with_reducible refine Kd.C_alloc ?_ _) | (with_reducible refine Kd.C_drewN ?_ _) | (with_reducible refine Kd.C_drew ?_))); (case side6 => exact HC1_4.out); rintro e w13 ⟨v299, rfl, ho0, hb⟩; refine ⟨_, rfl, ?_⟩; have n0_ := Aside0.mk (Kd.R_lower ho0 (below_size (by repeat (first | (with_reducible first | exact HB.out | apply below_alloc | apply pw_below_drewN | apply below_drew1 | refine below_set ?_ GE295.out) | exact HB.out)))); have n1_ := Aside0.mk (blk_below (g := gb295) (o := .cells #[.int .i64 a1_0, .string a1_1, .int .i64 a1_2, .slice A1_3 l1_3.length c1_3, .slice A1_4 l1_4.length c1_4] 30 (0, 0)) (by (with_reducible repeat (first | refine blk_drewN ?_ _ | refine blk_drew ?_ | refine blk_alloc ?_ _)); exact BK295.out) hb); have n2_ := Aside0.mk (below_step (by repeat (first | (with_reducible first | exact HB.out | apply below_alloc | apply pw_below_drewN | apply below_drew1 | refine below_set ?_ GE295.out) | exact HB.out)) hb); clear BK295; clear HB; have HO300 := n0_; have BK295 := n1_; have HB := n2_; clear n0_ n1_ n2_; (try clear hb); (try clear hb2); (try clear hk); (try clear hi); (try clear ho0)))
      go_ret
      exact ⟨_, by first | rfl | (simp [errW_none, errW_some] <;> rfl) | (simp [*, errW_none, errW_some] <;> rfl), by (with_reducible repeat (first | apply Kd.R_alloc | apply Kd.R_drewN | apply Kd.R_drew)); exact HO300.out, by repeat (first | (with_reducible first | exact HB.out | apply below_alloc | apply pw_below_drewN | apply below_drew1 | refine below_set ?_ GE295.out) | exact HB.out)⟩
    · replace c6 := Bool.eq_false_iff.mpr c6
      subst c6
      have H1 : (some ([] : List Int)) = some r := by rw [if_neg (show ¬ (false = true) by decide)] at H; exact H
      clear H
      have H := H1
      clear H1
      obtain rfl := Option.some.inj H
      go_enter Try.func25, Try.ntmps25
      go_wp2_with (first | ((with_reducible refine gate_dst (N := 3) rfl ?_); refine box_event ?hg (N := 3) ?hd (cs := #[.int .i64 a1_0, .string a1_1, .int .i64 a1_2, .slice A1_3 l1_3.length c1_3, .slice A1_4 l1_4.length c1_4]) (t := 30) ?hr ?_; (case hd => rfl); (case hg => rfl); (case hr => first | (go_simp; done) | (go_simp; rfl)); intro gb295 hg w14 hbox hb; have n0_ := Aside0.mk (below_step (by repeat (first | (with_reducible first | exact HB.out | apply below_alloc | apply pw_below_drewN | apply below_drew1) | exact HB.out)) hb); have n1_ := Aside0.mk (hbox); have n2_ := Aside0.mk ((by rw [hg]; exact (below_size (by repeat (first | (with_reducible first | exact HB.out | apply below_alloc | apply pw_below_drewN | apply below_drew1) | exact HB.out))) : w.heap.size ≤ gb295)); have n3_ := Aside0.mk ((by rw [hg]; exact (below_size (by repeat (first | (with_reducible first | exact HB.out | apply below_alloc | apply pw_below_drewN | apply below_drew1) | exact HB.out))) : w.heap.size ≤ gb295)); clear HB; have HB := n0_; have BK295 := n1_; have GW295 := n2_; have GE295 := n3_; clear n0_ n1_ n2_ n3_; clear hb hbox hg) | ((with_reducible refine gate_callee (f := 16) rfl ?_); refine goesL_ (some 6) rfl rfl Try.func16 (by kernel_rfl) rfl #[.slice A0 l0.length c0] rfl (by (try simp only [List.map_toArray, List.map_cons, List.map_nil]); first | done | rfl | (simp only [List.length_drop, List.length_take]; rfl)) ?_; (with_reducible refine (impl_BindsValid.calls _ _ l0 true _ ?side1 ?side2 A3.out).mono ?_); (case side1 => repeat (first | exact (Kd.C_below HR0.out HB.out) | (with_reducible refine Kd.C_alloc ?_ _) | (with_reducible refine Kd.C_drewN ?_ _) | (with_reducible refine Kd.C_drew ?_))); (case side2 => exact HC0.out); rintro e w15 ⟨rfl, hb⟩; refine ⟨_, rfl, ?_⟩; have n0_ := Aside0.mk (blk_below (g := gb295) (o := .cells #[.int .i64 a1_0, .string a1_1, .int .i64 a1_2, .slice A1_3 l1_3.length c1_3, .slice A1_4 l1_4.length c1_4] 30 (0, 0)) (by (with_reducible repeat (first | refine blk_drewN ?_ _ | refine blk_drew ?_ | refine blk_alloc ?_ _)); exact BK295.out) hb); have n1_ := Aside0.mk (below_step (by repeat (first | (with_reducible first | exact HB.out | apply below_alloc | apply pw_below_drewN | apply below_drew1 | refine below_set ?_ GE295.out) | exact HB.out)) hb); clear BK295; clear HB; have BK295 := n0_; have HB := n1_; clear n0_ n1_; (try clear hb); (try clear hb2); (try clear hk); (try clear hi); have hcz16_0 : w15.cell? ⟨gb295, 0, none⟩ = some (.int .i64 a1_0) := (blk_cell BK295.out 0).trans rfl; have hcz16_1 : w15.cell? ⟨gb295, 1, none⟩ = some (.string a1_1) := (blk_cell BK295.out 1).trans rfl; have hcz16_2 : w15.cell? ⟨gb295, 2, none⟩ = some (.int .i64 a1_2) := (blk_cell BK295.out 2).trans rfl; have hcz16_3 : w15.cell? ⟨gb295, 3, none⟩ = some (.slice A1_3 l1_3.length c1_3) := (blk_cell BK295.out 3).trans rfl; have hcz16_4 : w15.cell? ⟨gb295, 4, none⟩ = some (.slice A1_4 l1_4.length c1_4) := (blk_cell BK295.out 4).trans rfl; have hfz16_0 := blk_frozen BK295.out 0; have hfz16_1 := blk_frozen BK295.out 1; have hfz16_2 := blk_frozen BK295.out 2; have hfz16_3 := blk_frozen BK295.out 3; have hfz16_4 := blk_frozen BK295.out 4) | (go_at_call 52; (with_reducible refine (impl_isName.calls a1_0 a1_1 a1_2 _ _ l1_3 _ _ l1_4 false _ ?side1 ?side2 ?side3 ?side4 A5.out).mono ?_); (case side1 => repeat (first | exact (Kd.C_below HR1_3.out HB.out) | (with_reducible refine Kd.C_alloc ?_ _) | (with_reducible refine Kd.C_drewN ?_ _) | (with_reducible refine Kd.C_drew ?_))); (case side2 => exact HC1_3.out); (case side3 => repeat (first | exact (Kd.C_below HR1_4.out HB.out) | (with_reducible refine Kd.C_alloc ?_ _) | (with_reducible refine Kd.C_drewN ?_ _) | (with_reducible refine Kd.C_drew ?_))); (case side4 => exact HC1_4.out); rintro e w17 ⟨rfl, hb⟩; have n0_ := Aside0.mk (blk_below (g := gb295) (o := .cells #[.int .i64 a1_0, .string a1_1, .int .i64 a1_2, .slice A1_3 l1_3.length c1_3, .slice A1_4 l1_4.length c1_4] 30 (0, 0)) (by (with_reducible repeat (first | refine blk_drewN ?_ _ | refine blk_drew ?_ | refine blk_alloc ?_ _)); exact BK295.out) hb); have n1_ := Aside0.mk (below_step (by repeat (first | (with_reducible first | exact HB.out | apply below_alloc | apply pw_below_drewN | apply below_drew1 | refine below_set ?_ GE295.out) | exact HB.out)) hb); clear BK295; clear HB; have BK295 := n0_; have HB := n1_; clear n0_ n1_; (try clear hb); (try clear hb2); (try clear hk); (try clear hi)))
      go_ret
      exact ⟨_, by first | rfl | (simp [errW_none, errW_some] <;> rfl) | (simp [*, errW_none, errW_some] <;> rfl), by first | exact Kd.R_nil _ _ _ _ _ | exact Kd.N_nil _ _ _ _ _ | exact Kd.V_nil _ _ _ _ _ | exact Kd.Q_nil _ _ _ _ _ | exact Kd.S_nil _ _ _ _ _, by repeat (first | (with_reducible first | exact HB.out | apply below_alloc | apply pw_below_drewN | apply below_drew1 | refine below_set ?_ GE295.out) | exact HB.out)⟩
  · replace c4 := Bool.eq_false_iff.mpr c4
    subst c4
    have H1 : (some ([] : List Int)) = some r := by rw [if_neg (show ¬ (false = true) by decide)] at H; exact H
    clear H
    have H := H1
    clear H1
    obtain rfl := Option.some.inj H
    go_enter Try.func25, Try.ntmps25
    go_wp2_with (first | ((with_reducible refine gate_dst (N := 3) rfl ?_); refine box_event ?hg (N := 3) ?hd (cs := #[.int .i64 a1_0, .string a1_1, .int .i64 a1_2, .slice A1_3 l1_3.length c1_3, .slice A1_4 l1_4.length c1_4]) (t := 30) ?hr ?_; (case hd => rfl); (case hg => rfl); (case hr => first | (go_simp; done) | (go_simp; rfl)); intro gb295 hg w18 hbox hb; have n0_ := Aside0.mk (below_step (by repeat (first | (with_reducible first | exact HB.out | apply below_alloc | apply pw_below_drewN | apply below_drew1) | exact HB.out)) hb); have n1_ := Aside0.mk (hbox); have n2_ := Aside0.mk ((by rw [hg]; exact (below_size (by repeat (first | (with_reducible first | exact HB.out | apply below_alloc | apply pw_below_drewN | apply below_drew1) | exact HB.out))) : w.heap.size ≤ gb295)); have n3_ := Aside0.mk ((by rw [hg]; exact (below_size (by repeat (first | (with_reducible first | exact HB.out | apply below_alloc | apply pw_below_drewN | apply below_drew1) | exact HB.out))) : w.heap.size ≤ gb295)); clear HB; have HB := n0_; have BK295 := n1_; have GW295 := n2_; have GE295 := n3_; clear n0_ n1_ n2_ n3_; clear hb hbox hg) | ((with_reducible refine gate_callee (f := 16) rfl ?_); refine goesL_ (some 6) rfl rfl Try.func16 (by kernel_rfl) rfl #[.slice A0 l0.length c0] rfl (by (try simp only [List.map_toArray, List.map_cons, List.map_nil]); first | done | rfl | (simp only [List.length_drop, List.length_take]; rfl)) ?_; (with_reducible refine (impl_BindsValid.calls _ _ l0 false _ ?side1 ?side2 A3.out).mono ?_); (case side1 => repeat (first | exact (Kd.C_below HR0.out HB.out) | (with_reducible refine Kd.C_alloc ?_ _) | (with_reducible refine Kd.C_drewN ?_ _) | (with_reducible refine Kd.C_drew ?_))); (case side2 => exact HC0.out); rintro e w19 ⟨rfl, hb⟩; refine ⟨_, rfl, ?_⟩; have n0_ := Aside0.mk (blk_below (g := gb295) (o := .cells #[.int .i64 a1_0, .string a1_1, .int .i64 a1_2, .slice A1_3 l1_3.length c1_3, .slice A1_4 l1_4.length c1_4] 30 (0, 0)) (by (with_reducible repeat (first | refine blk_drewN ?_ _ | refine blk_drew ?_ | refine blk_alloc ?_ _)); exact BK295.out) hb); have n1_ := Aside0.mk (below_step (by repeat (first | (with_reducible first | exact HB.out | apply below_alloc | apply pw_below_drewN | apply below_drew1 | refine below_set ?_ GE295.out) | exact HB.out)) hb); clear BK295; clear HB; have BK295 := n0_; have HB := n1_; clear n0_ n1_; (try clear hb); (try clear hb2); (try clear hk); (try clear hi)))
    go_ret
    exact ⟨_, by first | rfl | (simp [errW_none, errW_some] <;> rfl) | (simp [*, errW_none, errW_some] <;> rfl), by first | exact Kd.R_nil _ _ _ _ _ | exact Kd.N_nil _ _ _ _ _ | exact Kd.V_nil _ _ _ _ _ | exact Kd.Q_nil _ _ _ _ _ | exact Kd.S_nil _ _ _ _ _, by repeat (first | (with_reducible first | exact HB.out | apply below_alloc | apply pw_below_drewN | apply below_drew1 | refine below_set ?_ GE295.out) | exact HB.out)⟩

end Go.Proofs.Ytcbomlmlindjdaa.Q
end
section
namespace Go.Proofs.Ytcbomlmlindjdaa.Q
open Go.RowKit Go.Proofs.YtcbomlmlindjdaaW.PrintWords Go.Proofs.YtcbomlmlindjdaaW.PrintLast Go.Proofs.YtcbomlmlindjdaaW.PrintMore
attribute [local go_sem] max2_int min2_int max_two min_two max_three min_three max_four min_four   -- for this text's walks alone
set_option linter.unusedVariables false
set_option linter.unusedSimpArgs false

end Go.Proofs.Ytcbomlmlindjdaa.Q
end
section
namespace Go.Proofs.Ytcbomlmlindjdaa.Q
open Go.RowKit Go.Proofs.YtcbomlmlindjdaaW.PrintWords Go.Proofs.YtcbomlmlindjdaaW.PrintLast Go.Proofs.YtcbomlmlindjdaaW.PrintMore
attribute [local go_sem] max2_int min2_int max_two min_two max_three min_three max_four min_four   -- for this text's walks alone
set_option linter.unusedVariables false
set_option linter.unusedSimpArgs false

noncomputable def spec_FittingBinds.f (k : Nat) (l0 : List (S36)) (a1_0 : Int) (a1_1 : ByteArray) (a1_2 : Int) (l1_3 : List Int) (l1_4 : List (S30)) : Option (List Int) := (spec_BindsValid.f k l0).bind fun t346 => (if t346 = true then ((spec_l3Is.f a1_0 a1_1 a1_2 l1_3 l1_4).bind fun t347 => (if t347 = true then ((spec_l3Fitting.f k l0 a1_0 a1_1 a1_2 l1_3 l1_4).bind fun t348 => (some t348)) else (some (([] : List Int))))) else (some (([] : List Int))))
theorem spec_FittingBinds.mono : ∀ a0 a1 a2 a3 a4 a5 k, LeO (spec_FittingBinds.f k a0 a1 a2 a3 a4 a5) (spec_FittingBinds.f (k + 1) a0 a1 a2 a3 a4 a5) := by
  intro a0 a1 a2 a3 a4 a5 k
  unfold spec_FittingBinds.f
  repeat' first
      | (with_reducible exact spec_BindsValid.mono _ _)
      | (with_reducible exact spec_l3Fitting.mono _ _ _ _ _ _ _)
      | (with_reducible exact LeO.refl _)
      | (with_reducible exact LeO.none _)
      | (with_reducible refine LeO.ite ?_ ?_)
      | (with_reducible refine LeO.bind ?_ (fun _ => ?_))
      | exact spec_BindsValid.mono _ _
      | exact spec_l3Fitting.mono _ _ _ _ _ _ _
      | exact LeO.none _
      | refine LeO.ite ?_ ?_
      | refine LeO.bind ?_ (fun _ => ?_)
set_option maxHeartbeats 8000000 in
set_option maxRecDepth 100000 in
theorem spec_FittingBinds.calls (k : Nat) (A0 : Option Addr) (c0 : Nat) (l0 : List (S36)) (a1_0 : Int) (a1_1 : ByteArray) (a1_2 : Int) (A1_3 : Option Addr) (c1_3 : Nat) (l1_3 : List Int) (A1_4 : Option Addr) (c1_4 : Nat) (l1_4 : List (S30)) (r : List Int) (w : World) (hr0 : Kd.C k36 w A0 l0.length l0) (hc0 : l0.length ≤ c0) (hr1_3 : Kd.C (Kd.int .i64) w A1_3 l1_3.length l1_3) (hc1_3 : l1_3.length ≤ c1_3) (hr1_4 : Kd.C k30 w A1_4 l1_4.length l1_4) (hc1_4 : l1_4.length ≤ c1_4) (h : spec_FittingBinds.f k l0 a1_0 a1_1 a1_2 l1_3 l1_4 = some r) :
    Calls Try.prog 38 #[.slice A0 l0.length c0, .agg #[.int .i64 a1_0, .string a1_1, .int .i64 a1_2, .slice A1_3 l1_3.length c1_3, .slice A1_4 l1_4.length c1_4]] w fun e w' => ∃ v0_ : Value, e = .returned (v0_) ∧ Kd.R (Kd.int .i64) 3 w' w.heap.size (fun _ => True) v0_ r ∧ Below w.heap.size w w' := by
  have hu30 := Try.underlying30
  have HR0 := Aside0.mk hr0
  have HC0 := Aside0.mk hc0
  clear hr0 hc0
  have HR1_3 := Aside0.mk hr1_3
  have HC1_3 := Aside0.mk hc1_3
  clear hr1_3 hc1_3
  have HR1_4 := Aside0.mk hr1_4
  have HC1_4 := Aside0.mk hc1_4
  clear hr1_4 hc1_4
  have HB := Aside0.mk (Below.refl w.heap.size w)
  have H : ((spec_BindsValid.f k l0).bind fun t346 => (if t346 = true then ((spec_l3Is.f a1_0 a1_1 a1_2 l1_3 l1_4).bind fun t347 => (if t347 = true then ((spec_l3Fitting.f k l0 a1_0 a1_1 a1_2 l1_3 l1_4).bind fun t348 => (some t348)) else (some (([] : List Int))))) else (some (([] : List Int))))) = some r := h
  clear h
  replace H := Option.bind_eq_some_iff.mp H
  obtain ⟨t346, A30, H⟩ := H
  replace H : (if t346 = true then ((spec_l3Is.f a1_0 a1_1 a1_2 l1_3 l1_4).bind fun t347 => (if t347 = true then ((spec_l3Fitting.f k l0 a1_0 a1_1 a1_2 l1_3 l1_4).bind fun t348 => (some t348)) else (some (([] : List Int))))) else (some (([] : List Int)))) = some r := H
  have A3 := Aside0.mk A30
  clear A30
  by_cases c4 : t346 = true
  · subst c4
    have H1 : ((spec_l3Is.f a1_0 a1_1 a1_2 l1_3 l1_4).bind fun t347 => (if t347 = true then ((spec_l3Fitting.f k l0 a1_0 a1_1 a1_2 l1_3 l1_4).bind fun t348 => (some t348)) else (some (([] : List Int))))) = some r := by rw [if_pos rfl] at H; exact H
    clear H
    have H := H1
    clear H1
    replace H := Option.bind_eq_some_iff.mp H
    obtain ⟨t347, A50, H⟩ := H
    replace H : (if t347 = true then ((spec_l3Fitting.f k l0 a1_0 a1_1 a1_2 l1_3 l1_4).bind fun t348 => (some t348)) else (some (([] : List Int)))) = some r := H
    have A5 := Aside0.mk A50
    clear A50
    by_cases c6 : t347 = true
    · subst c6
      have H1 : ((spec_l3Fitting.f k l0 a1_0 a1_1 a1_2 l1_3 l1_4).bind fun t348 => (some t348)) = some r := by rw [if_pos rfl] at H; exact H
      clear H
      have H := H1
      clear H1
      replace H := Option.bind_eq_some_iff.mp H
      obtain ⟨t348, A70, H⟩ := H
      replace H : (some t348) = some r := H
      have A7 := Aside0.mk A70
      clear A70
      obtain rfl := Option.some.inj H
      go_enter Try.func38, Try.ntmps38
      go_wp2_with (first | ((with_reducible refine gate_dst (N := 3) rfl ?_); refine box_event ?hg (N := 3) ?hd (cs := #[.int .i64 a1_0, .string a1_1, .int .i64 a1_2, .slice A1_3 l1_3.length c1_3, .slice A1_4 l1_4.length c1_4]) (t := 30) ?hr ?_; (case hd => rfl); (case hg => rfl); (case hr => first | (go_simp; done) | (go_simp; rfl)); intro gb345 hg w8 hbox hb; have n0_ := Aside0.mk (below_step (by repeat (first | (with_reducible first | exact HB.out | apply below_alloc | apply pw_below_drewN | apply below_drew1) | exact HB.out)) hb); have n1_ := Aside0.mk (hbox); have n2_ := Aside0.mk ((by rw [hg]; exact (below_size (by repeat (first | (with_reducible first | exact HB.out | apply below_alloc | apply pw_below_drewN | apply below_drew1) | exact HB.out))) : w.heap.size ≤ gb345)); have n3_ := Aside0.mk ((by rw [hg]; exact (below_size (by repeat (first | (with_reducible first | exact HB.out | apply below_alloc | apply pw_below_drewN | apply below_drew1) | exact HB.out))) : w.heap.size ≤ gb345)); clear HB; have HB := n0_; have BK345 := n1_; have GW345 := n2_; have GE345 := n3_; clear n0_ n1_ n2_ n3_; clear hb hbox hg) | ((with_reducible refine gate_callee (f := 17) rfl ?_); refine goesL_ (some 6) rfl rfl Try.func17 (by kernel_rfl) rfl #[.slice A0 l0.length c0] rfl (by (try simp only [List.map_toArray, List.map_cons, List.map_nil]); first | done | rfl | (simp only [List.length_drop, List.length_take]; rfl)) ?_; (with_reducible refine (spec_BindsValid.calls k _ _ l0 true _ ?side1 ?side2 A3.out).mono ?_); (case side1 => repeat (first | exact (Kd.C_below HR0.out HB.out) | (with_reducible refine Kd.C_alloc ?_ _) | (with_reducible refine Kd.C_drewN ?_ _) | (with_reducible refine Kd.C_drew ?_))); (case side2 => exact HC0.out); rintro e w9 ⟨rfl, hb⟩; refine ⟨_, rfl, ?_⟩; have n0_ := Aside0.mk (blk_below (g := gb345) (o := .cells #[.int .i64 a1_0, .string a1_1, .int .i64 a1_2, .slice A1_3 l1_3.length c1_3, .slice A1_4 l1_4.length c1_4] 30 (0, 0)) (by (with_reducible repeat (first | refine blk_drewN ?_ _ | refine blk_drew ?_ | refine blk_alloc ?_ _)); exact BK345.out) hb); have n1_ := Aside0.mk (below_step (by repeat (first | (with_reducible first | exact HB.out | apply below_alloc | apply pw_below_drewN | apply below_drew1 | refine below_set ?_ GE345.out) | exact HB.out)) hb); clear BK345; clear HB; have BK345 := n0_; have HB := n1_; clear n0_ n1_; (try clear hb); (try clear hb2); (try clear hk); (try clear hi); have hcz10_0 : w9.cell? ⟨gb345, 0, none⟩ = some (.int .i64 a1_0) := (blk_cell BK345.out 0).trans rfl; have hcz10_1 : w9.cell? ⟨gb345, 1, none⟩ = some (.string a1_1) := (blk_cell BK345.out 1).trans rfl; have hcz10_2 : w9.cell? ⟨gb345, 2, none⟩ = some (.int .i64 a1_2) := (blk_cell BK345.out 2).trans rfl; have hcz10_3 : w9.cell? ⟨gb345, 3, none⟩ = some (.slice A1_3 l1_3.length c1_3) := (blk_cell BK345.out 3).trans rfl; have hcz10_4 : w9.cell? ⟨gb345, 4, none⟩ = some (.slice A1_4 l1_4.length c1_4) := (blk_cell BK345.out 4).trans rfl; have hfz10_0 := blk_frozen BK345.out 0; have hfz10_1 := blk_frozen BK345.out 1; have hfz10_2 := blk_frozen BK345.out 2; have hfz10_3 := blk_frozen BK345.out 3; have hfz10_4 := blk_frozen BK345.out 4) | (go_at_call 54; (with_reducible refine (spec_l3Is.calls a1_0 a1_1 a1_2 _ _ l1_3 _ _ l1_4 true _ ?side1 ?side2 ?side3 ?side4 A5.out).mono ?_); (case side1 => repeat (first | exact (Kd.C_below HR1_3.out HB.out) | (with_reducible refine Kd.C_alloc ?_ _) | (with_reducible refine Kd.C_drewN ?_ _) | (with_reducible refine Kd.C_drew ?_))); (case side2 => exact HC1_3.out); (case side3 => repeat (first | exact (Kd.C_below HR1_4.out HB.out) | (with_reducible refine Kd.C_alloc ?_ _) | (with_reducible refine Kd.C_drewN ?_ _) | (with_reducible refine Kd.C_drew ?_))); (case side4 => exact HC1_4.out); rintro e w11 ⟨rfl, hb⟩; have n0_ := Aside0.mk (blk_below (g := gb345) (o := .cells #[.int .i64 a1_0, .string a1_1, .int .i64 a1_2, .slice A1_3 l1_3.length c1_3, .slice A1_4 l1_4.length c1_4] 30 (0, 0)) (by (with_reducible repeat (first | refine blk_drewN ?_ _ | refine blk_drew ?_ | refine blk_alloc ?_ _)); exact BK345.out) hb); have n1_ := Aside0.mk (below_step (by repeat (first | (with_reducible first | exact HB.out | apply below_alloc | apply pw_below_drewN | apply below_drew1 | refine below_set ?_ GE345.out) | exact HB.out)) hb); clear BK345; clear HB; have BK345 := n0_; have HB := n1_; clear n0_ n1_; (try clear hb); (try clear hb2); (try clear hk); (try clear hi); have hcz12_0 : w11.cell? ⟨gb345, 0, none⟩ = some (.int .i64 a1_0) := (blk_cell BK345.out 0).trans rfl; have hcz12_1 : w11.cell? ⟨gb345, 1, none⟩ = some (.string a1_1) := (blk_cell BK345.out 1).trans rfl; have hcz12_2 : w11.cell? ⟨gb345, 2, none⟩ = some (.int .i64 a1_2) := (blk_cell BK345.out 2).trans rfl; have hcz12_3 : w11.cell? ⟨gb345, 3, none⟩ = some (.slice A1_3 l1_3.length c1_3) := (blk_cell BK345.out 3).trans rfl; have hcz12_4 : w11.cell? ⟨gb345, 4, none⟩ = some (.slice A1_4 l1_4.length c1_4) := (blk_cell BK345.out 4).trans rfl; have hfz12_0 := blk_frozen BK345.out 0; have hfz12_1 := blk_frozen BK345.out 1; have hfz12_2 := blk_frozen BK345.out 2; have hfz12_3 := blk_frozen BK345.out 3; have hfz12_4 := blk_frozen BK345.out 4) | ((with_reducible refine gate_callee (f := 73) rfl ?_); refine goesL_ (some 16) rfl rfl Try.func73 (by kernel_rfl) rfl #[.slice A0 l0.length c0, .agg #[.int .i64 a1_0, .string a1_1, .int .i64 a1_2, .slice A1_3 l1_3.length c1_3, .slice A1_4 l1_4.length c1_4]] rfl (by (try simp only [List.map_toArray, List.map_cons, List.map_nil]); first | done | rfl | (simp only [List.length_drop, List.length_take]; rfl)) ?_; (with_reducible refine (spec_l3Fitting.calls k _ _ l0 a1_0 a1_1 a1_2 _ _ l1_3 _ _ l1_4 t348 _ ?side1 ?side2 ?side3 ?side4 ?side5 ?side6 A7.out).mono ?_); (case side1 => repeat (first | exact (Kd.C_below HR0.out HB.out) | (with_reducible refine Kd.C_alloc ?_ _) | (with_reducible refine Kd.C_drewN ?_ _) | (with_reducible refine Kd.C_drew ?_))); (case side2 => exact HC0.out); (case side3 => repeat (first | exact (Kd.C_below HR1_3.out HB.out) | (with_reducible refine Kd.C_alloc ?_ _) | (with_reducible refine Kd.C_drewN ?_ _) | (with_reducible refine Kd.C_drew ?_))); (case side4 => exact HC1_3.out); (case side5 => repeat (first | exact (Kd.C_below HR1_4.out HB.out) | (with_reducible refine Kd.C_alloc ?_ _) | (with_reducible refine Kd.C_drewN ?_ _) | (with_reducible refine Kd.C_drew ?_))); (case side6 => exact HC1_4.out); rintro e w13 ⟨v349, rfl, ho0, hb⟩; refine ⟨_, rfl, ?_⟩; have n0_ := Aside0.mk (Kd.R_lower ho0 (below_size (by repeat (first | (with_reducible first | exact HB.out | apply below_alloc | apply pw_below_drewN | apply below_drew1 | refine below_set ?_ GE345.out) | exact HB.out)))); have n1_ := Aside0.mk (blk_below (g := gb345) (o := .cells #[.int .i64 a1_0, .string a1_1, .int .i64 a1_2, .slice A1_3 l1_3.length c1_3, .slice A1_4 l1_4.length c1_4] 30 (0, 0)) (by (with_reducible repeat (first | refine blk_drewN ?_ _ | refine blk_drew ?_ | refine blk_alloc ?_ _)); exact BK345.out) hb); have n2_ := Aside0.mk (below_step (by repeat (first | (with_reducible first | exact HB.out | apply below_alloc | apply pw_below_drewN | apply below_drew1 | refine below_set ?_ GE345.out) | exact HB.out)) hb); clear BK345; clear HB; have HO350 := n0_; have BK345 := n1_; have HB := n2_; clear n0_ n1_ n2_; (try clear hb); (try clear hb2); (try clear hk); (try clear hi); (try clear ho0)))
      go_ret
      exact ⟨_, by first | rfl | (simp [errW_none, errW_some] <;> rfl) | (simp [*, errW_none, errW_some] <;> rfl), by (with_reducible repeat (first | apply Kd.R_alloc | apply Kd.R_drewN | apply Kd.R_drew)); exact HO350.out, by repeat (first | (with_reducible first | exact HB.out | apply below_alloc | apply pw_below_drewN | apply below_drew1 | refine below_set ?_ GE345.out) | exact HB.out)⟩
    · replace c6 := Bool.eq_false_iff.mpr c6
      subst c6
      have H1 : (some (([] : List Int))) = some r := by rw [if_neg (show ¬ (false = true) by decide)] at H; exact H
      clear H
      have H := H1
      clear H1
      obtain ⟨y351, hy351⟩ : ∃ y_ : List Int, y_ = (([] : List Int)) := ⟨_, rfl⟩
      replace H : (some y351) = some r := by first | (rw [hy351]; with_reducible exact H) | (have H2_ := (Option.bind_some _ _).symm.trans H; rw [hy351]; with_reducible exact H2_) | (have H2_ := (Option.bind_some _ _).symm.trans H; with_reducible exact H2_) | with_reducible exact H | (rw [hy351]; exact H) | exact H
      have Ny351 := Aside0.mk hy351
      clear hy351
      obtain rfl := Option.some.inj H
      go_enter Try.func38, Try.ntmps38
      go_wp2_with (first | ((with_reducible refine gate_dst (N := 3) rfl ?_); refine box_event ?hg (N := 3) ?hd (cs := #[.int .i64 a1_0, .string a1_1, .int .i64 a1_2, .slice A1_3 l1_3.length c1_3, .slice A1_4 l1_4.length c1_4]) (t := 30) ?hr ?_; (case hd => rfl); (case hg => rfl); (case hr => first | (go_simp; done) | (go_simp; rfl)); intro gb345 hg w14 hbox hb; have n0_ := Aside0.mk (below_step (by repeat (first | (with_reducible first | exact HB.out | apply below_alloc | apply pw_below_drewN | apply below_drew1) | exact HB.out)) hb); have n1_ := Aside0.mk (hbox); have n2_ := Aside0.mk ((by rw [hg]; exact (below_size (by repeat (first | (with_reducible first | exact HB.out | apply below_alloc | apply pw_below_drewN | apply below_drew1) | exact HB.out))) : w.heap.size ≤ gb345)); have n3_ := Aside0.mk ((by rw [hg]; exact (below_size (by repeat (first | (with_reducible first | exact HB.out | apply below_alloc | apply pw_below_drewN | apply below_drew1) | exact HB.out))) : w.heap.size ≤ gb345)); clear HB; have HB := n0_; have BK345 := n1_; have GW345 := n2_; have GE345 := n3_; clear n0_ n1_ n2_ n3_; clear hb hbox hg) | ((with_reducible refine gate_callee (f := 17) rfl ?_); refine goesL_ (some 6) rfl rfl Try.func17 (by kernel_rfl) rfl #[.slice A0 l0.length c0] rfl (by (try simp only [List.map_toArray, List.map_cons, List.map_nil]); first | done | rfl | (simp only [List.length_drop, List.length_take]; rfl)) ?_; (with_reducible refine (spec_BindsValid.calls k _ _ l0 true _ ?side1 ?side2 A3.out).mono ?_); (case side1 => repeat (first | exact (Kd.C_below HR0.out HB.out) | (with_reducible refine Kd.C_alloc ?_ _) | (with_reducible refine Kd.C_drewN ?_ _) | (with_reducible refine Kd.C_drew ?_))); (case side2 => exact HC0.out); rintro e w15 ⟨rfl, hb⟩; refine ⟨_, rfl, ?_⟩; have n0_ := Aside0.mk (blk_below (g := gb345) (o := .cells #[.int .i64 a1_0, .string a1_1, .int .i64 a1_2, .slice A1_3 l1_3.length c1_3, .slice A1_4 l1_4.length c1_4] 30 (0, 0)) (by (with_reducible repeat (first | refine blk_drewN ?_ _ | refine blk_drew ?_ | refine blk_alloc ?_ _)); exact BK345.out) hb); have n1_ := Aside0.mk (below_step (by repeat (first | (with_reducible first | exact HB.out | apply below_alloc | apply pw_below_drewN | apply below_drew1 | refine below_set ?_ GE345.out) | exact HB.out)) hb); clear BK345; clear HB; have BK345 := n0_; have HB := n1_; clear n0_ n1_; (try clear hb); (try clear hb2); (try clear hk); (try clear hi); have hcz16_0 : w15.cell? ⟨gb345, 0, none⟩ = some (.int .i64 a1_0) := (blk_cell BK345.out 0).trans rfl; have hcz16_1 : w15.cell? ⟨gb345, 1, none⟩ = some (.string a1_1) := (blk_cell BK345.out 1).trans rfl; have hcz16_2 : w15.cell? ⟨gb345, 2, none⟩ = some (.int .i64 a1_2) := (blk_cell BK345.out 2).trans rfl; have hcz16_3 : w15.cell? ⟨gb345, 3, none⟩ = some (.slice A1_3 l1_3.length c1_3) := (blk_cell BK345.out 3).trans rfl; have hcz16_4 : w15.cell? ⟨gb345, 4, none⟩ = some (.slice A1_4 l1_4.length c1_4) := (blk_cell BK345.out 4).trans rfl; have hfz16_0 := blk_frozen BK345.out 0; have hfz16_1 := blk_frozen BK345.out 1; have hfz16_2 := blk_frozen BK345.out 2; have hfz16_3 := blk_frozen BK345.out 3; have hfz16_4 := blk_frozen BK345.out 4) | (go_at_call 54; (with_reducible refine (spec_l3Is.calls a1_0 a1_1 a1_2 _ _ l1_3 _ _ l1_4 false _ ?side1 ?side2 ?side3 ?side4 A5.out).mono ?_); (case side1 => repeat (first | exact (Kd.C_below HR1_3.out HB.out) | (with_reducible refine Kd.C_alloc ?_ _) | (with_reducible refine Kd.C_drewN ?_ _) | (with_reducible refine Kd.C_drew ?_))); (case side2 => exact HC1_3.out); (case side3 => repeat (first | exact (Kd.C_below HR1_4.out HB.out) | (with_reducible refine Kd.C_alloc ?_ _) | (with_reducible refine Kd.C_drewN ?_ _) | (with_reducible refine Kd.C_drew ?_))); (case side4 => exact HC1_4.out); rintro e w17 ⟨rfl, hb⟩; have n0_ := Aside0.mk (blk_below (g := gb345) (o := .cells #[.int .i64 a1_0, .string a1_1, .int .i64 a1_2, .slice A1_3 l1_3.length c1_3, .slice A1_4 l1_4.length c1_4] 30 (0, 0)) (by (with_reducible repeat (first | refine blk_drewN ?_ _ | refine blk_drew ?_ | refine blk_alloc ?_ _)); exact BK345.out) hb); have n1_ := Aside0.mk (below_step (by repeat (first | (with_reducible first | exact HB.out | apply below_alloc | apply pw_below_drewN | apply below_drew1 | refine below_set ?_ GE345.out) | exact HB.out)) hb); clear BK345; clear HB; have BK345 := n0_; have HB := n1_; clear n0_ n1_; (try clear hb); (try clear hb2); (try clear hk); (try clear hi)) | ((with_reducible refine gate_dst (N := 13) rfl ?_); refine Kd.R_lit (Kd.int .i64) _ 3 ?hg (N := 13) ?hd (xs := ([] : List Int)) (inner := []) (ok := fun _ => True) (okp := fun _ => True) ?hr ?hp (fun _ hk => hk) trivial (Below.refl _ _) (Nat.le_refl _) (by simp) ?_; (case hd => rfl); (case hg => rfl); (case hr => first | (go_simp; done) | (go_simp; rfl)); (case hp => exact (Reps.none _ _)); intro v352 w18 ho19 hb hg_ hnew_; clear hg_ hnew_; (first | rw [← Ny351.out] at ho19 | (simp only [Int.reduceToNat] at ho19; rw [← Ny351.out] at ho19)); have n0_ := Aside0.mk (Kd.R_lower ho19 (below_size (by repeat (first | (with_reducible first | exact HB.out | apply below_alloc | apply pw_below_drewN | apply below_drew1 | refine below_set ?_ GE345.out) | exact HB.out)))); have n1_ := Aside0.mk (blk_below (g := gb345) (o := .cells #[.int .i64 a1_0, .string a1_1, .int .i64 a1_2, .slice A1_3 l1_3.length c1_3, .slice A1_4 l1_4.length c1_4] 30 (0, 0)) (by (with_reducible repeat (first | refine blk_drewN ?_ _ | refine blk_drew ?_ | refine blk_alloc ?_ _)); exact BK345.out) hb); have n2_ := Aside0.mk (below_step (by repeat (first | (with_reducible first | exact HB.out | apply below_alloc | apply pw_below_drewN | apply below_drew1 | refine below_set ?_ GE345.out) | exact HB.out)) hb); clear BK345; clear HB; have HO353 := n0_; have BK345 := n1_; have HB := n2_; clear n0_ n1_ n2_; clear hb ho19))
      go_ret
      exact ⟨_, by first | rfl | (simp [errW_none, errW_some] <;> rfl) | (simp [*, errW_none, errW_some] <;> rfl), by (with_reducible repeat (first | apply Kd.R_alloc | apply Kd.R_drewN | apply Kd.R_drew)); exact HO353.out, by repeat (first | (with_reducible first | exact HB.out | apply below_alloc | apply pw_below_drewN | apply below_drew1 | refine below_set ?_ GE345.out) | exact HB.out)⟩
  · replace c4 := Bool.eq_false_iff.mpr c4
    subst c4
    have H1 : (some (([] : List Int))) = some r := by rw [if_neg (show ¬ (false = true) by decide)] at H; exact H
    clear H
    have H := H1
    clear H1
    obtain ⟨y354, hy354⟩ : ∃ y_ : List Int, y_ = (([] : List Int)) := ⟨_, rfl⟩
    replace H : (some y354) = some r := by first | (rw [hy354]; with_reducible exact H) | (have H2_ := (Option.bind_some _ _).symm.trans H; rw [hy354]; with_reducible exact H2_) | (have H2_ := (Option.bind_some _ _).symm.trans H; with_reducible exact H2_) | with_reducible exact H | (rw [hy354]; exact H) | exact H
    have Ny354 := Aside0.mk hy354
    clear hy354
    obtain rfl := Option.some.inj H
    go_enter Try.func38, Try.ntmps38
    go_wp2_with (first | ((with_reducible refine gate_dst (N := 3) rfl ?_); refine box_event ?hg (N := 3) ?hd (cs := #[.int .i64 a1_0, .string a1_1, .int .i64 a1_2, .slice A1_3 l1_3.length c1_3, .slice A1_4 l1_4.length c1_4]) (t := 30) ?hr ?_; (case hd => rfl); (case hg => rfl); (case hr => first | (go_simp; done) | (go_simp; rfl)); intro gb345 hg w20 hbox hb; have n0_ := Aside0.mk (below_step (by repeat (first | (with_reducible first | exact HB.out | apply below_alloc | apply pw_below_drewN | apply below_drew1) | exact HB.out)) hb); have n1_ := Aside0.mk (hbox); have n2_ := Aside0.mk ((by rw [hg]; exact (below_size (by repeat (first | (with_reducible first | exact HB.out | apply below_alloc | apply pw_below_drewN | apply below_drew1) | exact HB.out))) : w.heap.size ≤ gb345)); have n3_ := Aside0.mk ((by rw [hg]; exact (below_size (by repeat (first | (with_reducible first | exact HB.out | apply below_alloc | apply pw_below_drewN | apply below_drew1) | exact HB.out))) : w.heap.size ≤ gb345)); clear HB; have HB := n0_; have BK345 := n1_; have GW345 := n2_; have GE345 := n3_; clear n0_ n1_ n2_ n3_; clear hb hbox hg) | ((with_reducible refine gate_callee (f := 17) rfl ?_); refine goesL_ (some 6) rfl rfl Try.func17 (by kernel_rfl) rfl #[.slice A0 l0.length c0] rfl (by (try simp only [List.map_toArray, List.map_cons, List.map_nil]); first | done | rfl | (simp only [List.length_drop, List.length_take]; rfl)) ?_; (with_reducible refine (spec_BindsValid.calls k _ _ l0 false _ ?side1 ?side2 A3.out).mono ?_); (case side1 => repeat (first | exact (Kd.C_below HR0.out HB.out) | (with_reducible refine Kd.C_alloc ?_ _) | (with_reducible refine Kd.C_drewN ?_ _) | (with_reducible refine Kd.C_drew ?_))); (case side2 => exact HC0.out); rintro e w21 ⟨rfl, hb⟩; refine ⟨_, rfl, ?_⟩; have n0_ := Aside0.mk (blk_below (g := gb345) (o := .cells #[.int .i64 a1_0, .string a1_1, .int .i64 a1_2, .slice A1_3 l1_3.length c1_3, .slice A1_4 l1_4.length c1_4] 30 (0, 0)) (by (with_reducible repeat (first | refine blk_drewN ?_ _ | refine blk_drew ?_ | refine blk_alloc ?_ _)); exact BK345.out) hb); have n1_ := Aside0.mk (below_step (by repeat (first | (with_reducible first | exact HB.out | apply below_alloc | apply pw_below_drewN | apply below_drew1 | refine below_set ?_ GE345.out) | exact HB.out)) hb); clear BK345; clear HB; have BK345 := n0_; have HB := n1_; clear n0_ n1_; (try clear hb); (try clear hb2); (try clear hk); (try clear hi)) | ((with_reducible refine gate_dst (N := 13) rfl ?_); refine Kd.R_lit (Kd.int .i64) _ 3 ?hg (N := 13) ?hd (xs := ([] : List Int)) (inner := []) (ok := fun _ => True) (okp := fun _ => True) ?hr ?hp (fun _ hk => hk) trivial (Below.refl _ _) (Nat.le_refl _) (by simp) ?_; (case hd => rfl); (case hg => rfl); (case hr => first | (go_simp; done) | (go_simp; rfl)); (case hp => exact (Reps.none _ _)); intro v355 w22 ho23 hb hg_ hnew_; clear hg_ hnew_; (first | rw [← Ny354.out] at ho23 | (simp only [Int.reduceToNat] at ho23; rw [← Ny354.out] at ho23)); have n0_ := Aside0.mk (Kd.R_lower ho23 (below_size (by repeat (first | (with_reducible first | exact HB.out | apply below_alloc | apply pw_below_drewN | apply below_drew1 | refine below_set ?_ GE345.out) | exact HB.out)))); have n1_ := Aside0.mk (blk_below (g := gb345) (o := .cells #[.int .i64 a1_0, .string a1_1, .int .i64 a1_2, .slice A1_3 l1_3.length c1_3, .slice A1_4 l1_4.length c1_4] 30 (0, 0)) (by (with_reducible repeat (first | refine blk_drewN ?_ _ | refine blk_drew ?_ | refine blk_alloc ?_ _)); exact BK345.out) hb); have n2_ := Aside0.mk (below_step (by repeat (first | (with_reducible first | exact HB.out | apply below_alloc | apply pw_below_drewN | apply below_drew1 | refine below_set ?_ GE345.out) | exact HB.out)) hb); clear BK345; clear HB; have HO356 := n0_; have BK345 := n1_; have HB := n2_; clear n0_ n1_ n2_; clear hb ho23))
    go_ret
    exact ⟨_, by first | rfl | (simp [errW_none, errW_some] <;> rfl) | (simp [*, errW_none, errW_some] <;> rfl), by (with_reducible repeat (first | apply Kd.R_alloc | apply Kd.R_drewN | apply Kd.R_drew)); exact HO356.out, by repeat (first | (with_reducible first | exact HB.out | apply below_alloc | apply pw_below_drewN | apply below_drew1 | refine below_set ?_ GE345.out) | exact HB.out)⟩

end Go.Proofs.Ytcbomlmlindjdaa.Q
end
section
namespace Go.Proofs.Ytcbomlmlindjdaa
open Go.RowKit Go.Proofs.YtcbomlmlindjdaaW.PrintWords
set_option linter.unusedVariables false
set_option linter.unusedSimpArgs false
theorem rdB {l : List Bd} {i : Nat} (h : i < l.length) : Q.rd_T36 l (i : Int) = l[i] := by
  simp [Q.rd_T36, List.getD, h]
theorem rdI_ (l : List Int) (i : Nat) (h : i < l.length) : rd l (i : Int) = l[i] := by simp [rd, h]
/-- A list of bindings of a bounded size. -/
def SmB (l : List Bd) : Prop := l.length ≤ 2000000 ∧ ∀ b, b ∈ l → b.f0.size ≤ 2000000 ∧ b.f1.length ≤ 2000000
theorem SmB.nm {l : List Bd} (h : SmB l) {i : Nat} (hi : i < l.length) : l[i].f0.size ≤ 140737488351232 := by have := (h.2 _ (List.getElem_mem hi)).1; omega
/-- A loop that goes on while P holds. -/
theorem ev_all {R : Type} {L : Nat → Nat → Option R} (P : Nat → Prop) (N : Nat) (rT rF : R)
    (hs : ∀ i, i < N → P i → ∀ r, Ev (fun k => L k (i + 1)) r → Ev (fun k => L k i) r) (hf : ∀ i, i < N → ¬ P i → Ev (fun k => L k i) rF) (he : Ev (fun k => L k N) rT) :
    ((∀ i, i < N → P i) → Ev (fun k => L k 0) rT) ∧ ((¬ ∀ i, i < N → P i) → Ev (fun k => L k 0) rF) := by
  have key : ∀ m i, i + m = N → ((∀ j, i ≤ j → j < N → P j) → Ev (fun k => L k i) rT) ∧ ((¬ ∀ j, i ≤ j → j < N → P j) → Ev (fun k => L k i) rF) := by
    intro m
    induction m with
    | zero =>
      intro i hi
      obtain rfl : i = N := by omega
      exact ⟨fun _ => he, fun h => absurd (fun j h1 h2 => absurd h2 (by omega)) h⟩
    | succ m ih =>
      intro i hi
      obtain ⟨h1, h2⟩ := ih (i + 1) (by omega)
      by_cases hp : P i
      · refine ⟨fun h => hs i (by omega) hp _ (h1 (fun j ha hb => h j (by omega) hb)), fun h => hs i (by omega) hp _ (h2 (fun k => h (fun j ha hb => ?_)))⟩
        by_cases e : j = i
        · rw [e]; exact hp
        · exact k j (by omega) hb
      · exact ⟨fun h => absurd (h i (Nat.le_refl _) (by omega)) hp, fun _ => hf i (by omega) hp⟩
  obtain ⟨h1, h2⟩ := key N 0 (by omega)
  exact ⟨fun h => h1 (fun j _ hj => h j hj), fun h => h2 (fun k => h (fun j hj => k j (Nat.zero_le _) hj))⟩
section
open Go.Proofs.Ytcbomlmlindjdaa.Q
theorem bds_row {l : List Bd} (hl : SmB l) {i : Nat} (hi : i < l.length) (h60 : i ≤ 60) : (BdAt l i → ∀ r, Ev (fun k => spec_BindsValid.l0 k l ((i + 1 : Nat) : Int)) r → Ev (fun k => spec_BindsValid.l0 k l (i : Int)) r) ∧ (¬ BdAt l i → Ev (fun k => spec_BindsValid.l0 k l (i : Int)) false) := by
  have hnm := hl.nm hi
  have hI : (i : Int) < (l.length : Int) := by omega
  have h0 : (0 : Int) ≤ (i : Int) := by omega
  have hd : decide ((i : Int) ≤ 60) = true := decide_eq_true (by omega)
  have hR := rdB hi
  have pre : ∀ r, Ev (fun k => (spec_l1Scopes.f (rd_T36 l (i : Int)).f1).bind fun t417 => (if t417 = true then (if ((rd_T36 l (i : Int)).f2) < 1 then (spec_BindsValid.j2 k l (i : Int) true) else (spec_BindsValid.j2 k l (i : Int) (decide (((rd_T36 l (i : Int)).f2) > 999)))) else (spec_BindsValid.j2 k l (i : Int) true))) r → nmB l[i].f0 = true → Ev (fun k => spec_BindsValid.l0 k l (i : Int)) r := by
    intro r hr hn
    refine Ev.step (fun k => by rw [spec_BindsValid.l0]) (Ev.pos hI ?_)
    rw [hd]
    refine Ev.step (fun k => by rw [spec_BindsValid.j1]) (Ev.pos rfl (Ev.pos h0 (Ev.pos hI ?_)))
    exact Ev.bind (g := fun _ => _) (Ev.some (gIf_yes (by rw [hR]; exact hnm) _)) (Ev.pos (by rw [hR]; exact hn) hr)
  have preF : nmB l[i].f0 = false → Ev (fun k => spec_BindsValid.l0 k l (i : Int)) false := by
    intro hn
    refine Ev.step (fun k => by rw [spec_BindsValid.l0]) (Ev.pos hI ?_)
    rw [hd]
    refine Ev.step (fun k => by rw [spec_BindsValid.j1]) (Ev.pos rfl (Ev.pos h0 (Ev.pos hI ?_)))
    refine Ev.bind (g := fun _ => _) (Ev.some (gIf_yes (by rw [hR]; exact hnm) _)) (Ev.neg (by rw [hR, hn]; simp) ?_)
    exact Ev.step (fun k => by rw [spec_BindsValid.j2]) (Ev.pos rfl (Ev.now _))
  rcases hn : nmB l[i].f0 with _ | _
  · exact ⟨fun h => absurd (h hi).1.1 (nmB_false hn), fun _ => preF hn⟩
  rcases hsc : pB (ScOk l[i].f1) with _ | _
  · refine ⟨fun h => absurd (h hi).1.2.1 (pB_false hsc), fun _ => pre _ ?_ hn⟩
    refine Ev.bind (g := fun _ => _) (Ev.some rfl) (Ev.neg (by rw [hR, hsc]; simp) ?_)
    exact Ev.step (fun k => by rw [spec_BindsValid.j2]) (Ev.pos rfl (Ev.now _))
  by_cases h1 : l[i].f2 < 1
  · refine ⟨fun h => absurd (h hi).1.2.2.1 (by omega), fun _ => pre _ ?_ hn⟩
    refine Ev.bind (g := fun _ => _) (Ev.some rfl) (Ev.pos (by rw [hR]; exact hsc) (Ev.pos (by rw [hR]; exact h1) ?_))
    exact Ev.step (fun k => by rw [spec_BindsValid.j2]) (Ev.pos rfl (Ev.now _))
  by_cases h2 : l[i].f2 > 999
  · refine ⟨fun h => absurd (h hi).1.2.2.2 (by omega), fun _ => pre _ ?_ hn⟩
    refine Ev.bind (g := fun _ => _) (Ev.some rfl) (Ev.pos (by rw [hR]; exact hsc) (Ev.neg (by rw [hR]; exact h1) ?_))
    rw [hR, decide_eq_true h2]
    exact Ev.step (fun k => by rw [spec_BindsValid.j2]) (Ev.pos rfl (Ev.now _))
  have hok : BdOk l[i] := ⟨(nmB_iff _).1 hn, pB_iff.1 hsc, by omega, by omega⟩
  have hat : BdAt l i ↔ ∀ q, q < i → ¬ sameB l[i] (bdAt l q) = true := by
    constructor
    · intro h q hq hs
      have h3 := (h hi).2
      rw [List.any_eq_false] at h3
      rw [bdAt_eq (by omega)] at hs
      exact h3 l[q] (List.mem_take_iff_getElem.2 ⟨q, by omega, rfl⟩) hs
    · intro h hi'
      refine ⟨hok, ?_⟩
      rw [List.any_eq_false]
      intro b hb he
      obtain ⟨j, hj, rfl⟩ := List.mem_take_iff_getElem.1 hb
      have := h j (by omega)
      rw [bdAt_eq (by omega)] at this
      exact this he
  have inner : ∀ r, Ev (fun k => spec_BindsValid.l0 k l ((i + 1 : Nat) : Int)) r → ((∀ q, q < i → ¬ sameB l[i] (bdAt l q) = true) → Ev (fun k => spec_BindsValid.l1 k l (i : Int) ((0 : Nat) : Int)) r) ∧ ((¬ ∀ q, q < i → ¬ sameB l[i] (bdAt l q) = true) → Ev (fun k => spec_BindsValid.l1 k l (i : Int) ((0 : Nat) : Int)) false) := by
    intro r hr
    refine ev_all (L := fun k q => spec_BindsValid.l1 k l (i : Int) (q : Int)) (fun q => ¬ sameB l[i] (bdAt l q) = true) i r false ?_ ?_ ?_
    · intro q hq hp r2 hr2
      have hql : q < l.length := by omega
      rw [bdAt_eq hql, sameB_iff] at hp
      refine Ev.step (fun k => by rw [spec_BindsValid.l1]) (Ev.pos (by omega) (Ev.pos (by omega) (Ev.pos (by omega) (Ev.pos h0 (Ev.pos hI ?_)))))
      by_cases he : l[q].f0.toList = l[i].f0.toList
      · refine Ev.pos (by rw [rdB hql, hR]; exact he) (Ev.bind (g := fun _ => _) (Ev.some rfl) (Ev.neg (by rw [rdB hql, hR, decide_eq_true_iff]; exact fun h => hp ⟨he, h⟩) ?_))
        rw [wr1 _ (by omega)]
        exact hr2
      · refine Ev.neg (by rw [rdB hql, hR]; exact he) ?_
        rw [wr1 _ (by omega)]
        exact hr2
    · intro q hq hp
      have hql : q < l.length := by omega
      rw [Classical.not_not, bdAt_eq hql, sameB_iff] at hp
      refine Ev.step (fun k => by rw [spec_BindsValid.l1]) (Ev.pos (by omega) (Ev.pos (by omega) (Ev.pos (by omega) (Ev.pos h0 (Ev.pos hI (Ev.pos (by rw [rdB hql, hR]; exact hp.1) ?_))))))
      exact Ev.bind (g := fun _ => _) (Ev.some rfl) (Ev.pos (by rw [rdB hql, hR, decide_eq_true_iff]; exact hp.2) (Ev.now _))
    · refine Ev.step (fun k => by rw [spec_BindsValid.l1]) (Ev.neg (by omega) ?_)
      rw [wr1 _ (by omega)]
      exact hr
  have post : ∀ r, Ev (fun k => spec_BindsValid.l1 k l (i : Int) ((0 : Nat) : Int)) r → Ev (fun k => spec_BindsValid.l0 k l (i : Int)) r := by
    intro r hr
    refine pre _ ?_ hn
    refine Ev.bind (g := fun _ => _) (Ev.some rfl) (Ev.pos (by rw [hR]; exact hsc) (Ev.neg (by rw [hR]; exact h1) ?_))
    rw [hR, decide_eq_false h2]
    refine Ev.step (fun k => by rw [spec_BindsValid.j2]) ?_
    simp only [Bool.false_eq_true, if_false]
    exact hr
  refine ⟨fun h r hr => post r ((inner r hr).1 (hat.1 h)), fun h => post false ?_⟩
  have h3 : ¬ ∀ q, q < i → ¬ sameB l[i] (bdAt l q) = true := fun k => h (hat.2 k)
  -- the loop ends ahead of the next row
  have hstop : Ev (fun k => spec_BindsValid.l1 k l (i : Int) ((0 : Nat) : Int)) false := by
    obtain ⟨q0, hq0, hs0, hmin⟩ : ∃ q, q < i ∧ sameB l[i] (bdAt l q) = true ∧ ∀ j, j < q → ¬ sameB l[i] (bdAt l j) = true := by
      have ex : ∃ q, q < i ∧ sameB l[i] (bdAt l q) = true := Classical.byContradiction fun hno => h3 (fun q hq hs => hno ⟨q, hq, hs⟩)
      have key : ∀ m, (∃ q, q < m ∧ q < i ∧ sameB l[i] (bdAt l q) = true) → ∃ q, q < i ∧ sameB l[i] (bdAt l q) = true ∧ ∀ j, j < q → ¬ sameB l[i] (bdAt l j) = true := by
        intro m
        induction m with
        | zero => rintro ⟨q, hq, _⟩; omega
        | succ m ih =>
          rintro ⟨q, hq, hqi, hs⟩
          by_cases hless : ∃ q, q < m ∧ q < i ∧ sameB l[i] (bdAt l q) = true
          · exact ih hless
          · exact ⟨q, hqi, hs, fun j hj hsj => hless ⟨j, by omega, by omega, hsj⟩⟩
      obtain ⟨q, hq, hs⟩ := ex
      exact key i ⟨q, hq, hq, hs⟩
    have hql : q0 < l.length := by omega
    refine (ev_all (L := fun k q => spec_BindsValid.l1 k l (i : Int) (q : Int)) (fun q => ¬ sameB l[i] (bdAt l q) = true) q0 false false ?_ ?_ ?_).1 hmin
    · intro q hq hp r2 hr2
      have hql : q < l.length := by omega
      rw [bdAt_eq hql, sameB_iff] at hp
      refine Ev.step (fun k => by rw [spec_BindsValid.l1]) (Ev.pos (by omega) (Ev.pos (by omega) (Ev.pos (by omega) (Ev.pos h0 (Ev.pos hI ?_)))))
      by_cases he : l[q].f0.toList = l[i].f0.toList
      · refine Ev.pos (by rw [rdB hql, hR]; exact he) (Ev.bind (g := fun _ => _) (Ev.some rfl) (Ev.neg (by rw [rdB hql, hR, decide_eq_true_iff]; exact fun h => hp ⟨he, h⟩) ?_))
        rw [wr1 _ (by omega)]
        exact hr2
      · refine Ev.neg (by rw [rdB hql, hR]; exact he) ?_
        rw [wr1 _ (by omega)]
        exact hr2
    · intro q hq hp
      exact absurd (hmin q hq) hp
    · rw [bdAt_eq hql, sameB_iff] at hs0
      refine Ev.step (fun k => by rw [spec_BindsValid.l1]) (Ev.pos (by omega) (Ev.pos (by omega) (Ev.pos (by omega) (Ev.pos h0 (Ev.pos hI (Ev.pos (by rw [rdB hql, hR]; exact hs0.1) ?_))))))
      exact Ev.bind (g := fun _ => _) (Ev.some rfl) (Ev.pos (by rw [rdB hql, hR, decide_eq_true_iff]; exact hs0.2) (Ev.now _))
  exact hstop
theorem ev_bindsValid {l : List Bd} (hl : SmB l) : Ev (fun k => spec_BindsValid.f k l) (pB (BdsOk l)) := by
  simp only [spec_BindsValid.f]
  have hend : ∀ r, r = decide (l.length ≤ 60) → (¬ (min l.length 61) < l.length ∨ ¬ (min l.length 61) ≤ 60) → Ev (fun k => spec_BindsValid.l0 k l ((min l.length 61 : Nat) : Int)) r := by
    rintro r rfl h
    have hv : some (decide ((l.length : Int) ≤ 60)) = some (decide (l.length ≤ 60)) := by
      congr 1
      exact Bool.eq_iff_iff.2 (by rw [decide_eq_true_iff, decide_eq_true_iff]; omega)
    by_cases hlt : min l.length 61 < l.length
    · refine Ev.step (fun k => by rw [spec_BindsValid.l0]) (Ev.pos (by omega) ?_)
      rw [decide_eq_false (by omega)]
      refine Ev.step (fun k => by rw [spec_BindsValid.j1]) (Ev.neg (by simp) ?_)
      exact Ev.some hv
    · refine Ev.step (fun k => by rw [spec_BindsValid.l0]) (Ev.neg (by omega) ?_)
      refine Ev.step (fun k => by rw [spec_BindsValid.j1]) (Ev.neg (by simp) ?_)
      exact Ev.some hv
  obtain ⟨hT, hF⟩ := ev_all (L := fun k i => spec_BindsValid.l0 k l (i : Int)) (fun i => BdAt l i) (min l.length 61) (decide (l.length ≤ 60)) false
    (fun i hi hp r hr => (bds_row hl (by omega) (by omega)).1 hp r hr) (fun i hi hp => (bds_row hl (by omega) (by omega)).2 hp) (hend _ rfl (by omega))
  by_cases hall : ∀ i, i < min l.length 61 → BdAt l i
  · have := hT hall
    rw [show pB (BdsOk l) = decide (l.length ≤ 60) from ?_]
    · exact this
    by_cases h60 : l.length ≤ 60
    · rw [decide_eq_true h60]
      refine pB_iff.2 ⟨h60, fun i => ?_⟩
      by_cases hi : i < l.length
      · exact hall i (by omega)
      · exact fun h => absurd h hi
    · rw [decide_eq_false h60]
      exact (pB_no (fun h => h60 h.1)).symm
  · rw [← pB_no (show ¬ BdsOk l from fun h => hall (fun i _ => h.2 i))]
    exact hF hall
theorem ev_l3Is {x : Fm} (hx : x.tot ≤ 1048576) : spec_l3Is.f x.f0 x.f1 x.f2 x.f3 x.f4 = some (pB (IsName x)) := by
  unfold spec_l3Is.f
  by_cases h : x.f0 = 1
  · rw [if_pos h, show spec_FormValid.f x.f0 x.f1 x.f2 x.f3 x.f4 = some (pB (FmOk x)) from by cases x; exact gIf_yes hx _]
    show some (pB (FmOk x)) = _
    congr 1
    by_cases hv : FmOk x
    · rw [pB_iff.2 hv, pB_iff.2 ⟨h, hv⟩]
    · rw [← pB_no hv, ← pB_no (fun k : IsName x => hv k.2)]
  · rw [if_neg h, ← pB_no (fun k : IsName x => h k.1)]
theorem ev_fitting {l : List Bd} (hl : SmB l) (x : Fm) : Ev (fun k => spec_l3Fitting.f k l x.f0 x.f1 x.f2 x.f3 x.f4) (fitL l x) := by
  simp only [spec_l3Fitting.f]
  have h0 := hl.1
  obtain ⟨r, hp, hr⟩ := ev_loop (L := fun k (s : Int × List Int) => spec_l3Fitting.l0 k l s.2 s.1 x.f0 x.f1 x.f2 x.f3 x.f4) (fun i s => s = ((i : Int), fitI l x i)) l.length (· = fitL l x) (by
    rintro i s hi rfl
    have hlen := fitI_len l x i
    refine ⟨((i + 1 : Nat), fitI l x (i + 1)), rfl, fun r hr => ?_⟩
    refine Ev.step (fun k => by rw [spec_l3Fitting.l0]) (Ev.pos (by simpa using hi) (Ev.pos (by simp) ?_))
    rw [fitI_next, bdAt_eq hi] at hr
    by_cases h1 : l[i].f0.toList = x.f1.toList
    · refine Ev.pos (by rw [rdB hi]; exact h1) (Ev.bind (g := fun _ => _) (Ev.some rfl) ?_)
      by_cases h2 : ∀ s, s ∈ l[i].f1 → s ∈ x.f3
      · refine Ev.pos (by rw [rdB hi, decide_eq_true_iff]; exact h2) (Ev.pos (by simp only; omega) ?_)
        rw [wr1 _ (by omega)]
        rw [if_pos (fitsB_iff.2 ⟨h1, h2⟩)] at hr
        exact hr
      · refine Ev.neg (by rw [rdB hi, decide_eq_true_iff]; exact h2) ?_
        rw [wr1 _ (by omega)]
        rw [if_neg (fun h => h2 (fitsB_iff.1 h).2), List.append_nil] at hr
        exact hr
    · refine Ev.neg (by rw [rdB hi]; exact h1) ?_
      rw [wr1 _ (by omega)]
      rw [if_neg (fun h => h1 (fitsB_iff.1 h).1), List.append_nil] at hr
      exact hr) (by
    rintro s rfl
    exact ⟨_, rfl, Ev.step (fun k => by rw [spec_l3Fitting.l0]) (Ev.neg (by simp) (Ev.now _))⟩) (0, []) rfl
  subst hp
  exact hr
theorem ev_implFitting {l : List Bd} (hl : SmB l) (x : Fm) : Ev (fun k => impl_fitting.f k l x.f0 x.f1 x.f2 x.f3 x.f4) (fitL l x) := by
  simp only [impl_fitting.f]
  have h0 := hl.1
  obtain ⟨r, hp, hr⟩ := ev_loop (L := fun k (s : Int × List Int) => impl_fitting.l0 k s.2 l (l.length : Int) s.1 x.f0 x.f1 x.f2 x.f3 x.f4) (fun i s => s = ((i : Int), fitI l x i)) l.length (· = fitL l x) (by
    rintro i s hi rfl
    have hlen := fitI_len l x i
    refine ⟨((i + 1 : Nat), fitI l x (i + 1)), rfl, fun r hr => ?_⟩
    refine Ev.step (fun k => by rw [impl_fitting.l0]) (Ev.pos (by simpa using hi) (Ev.pos (by simp) (Ev.pos (by simpa using hi) ?_)))
    rw [fitI_next, bdAt_eq hi] at hr
    by_cases h1 : l[i].f0.toList = x.f1.toList
    · refine Ev.pos (by rw [rdB hi]; exact h1) (Ev.bind (g := fun _ => _) (Ev.some rfl) ?_)
      by_cases h2 : ∀ s, s ∈ l[i].f1 → s ∈ x.f3
      · refine Ev.pos (by rw [rdB hi, decide_eq_true_iff]; exact h2) (Ev.pos (by simp only; omega) ?_)
        rw [wr1 _ (by omega)]
        rw [if_pos (fitsB_iff.2 ⟨h1, h2⟩)] at hr
        exact hr
      · refine Ev.neg (by rw [rdB hi, decide_eq_true_iff]; exact h2) ?_
        rw [wr1 _ (by omega)]
        rw [if_neg (fun h => h2 (fitsB_iff.1 h).2), List.append_nil] at hr
        exact hr
    · refine Ev.neg (by rw [rdB hi]; exact h1) ?_
      rw [wr1 _ (by omega)]
      rw [if_neg (fun h => h1 (fitsB_iff.1 h).1), List.append_nil] at hr
      exact hr) (by
    rintro s rfl
    exact ⟨_, rfl, Ev.step (fun k => by rw [impl_fitting.l0]) (Ev.neg (by simp) (Ev.now _))⟩) (0, []) rfl
  subst hp
  exact hr
end
end Go.Proofs.Ytcbomlmlindjdaa
end
section
namespace Go.Proofs.Ytcbomlmlindjdaa
open Go.RowKit Go.Proofs.YtcbomlmlindjdaaW.PrintWords
set_option linter.unusedVariables false
set_option linter.unusedSimpArgs false
section
open Go.Proofs.Ytcbomlmlindjdaa.Q
theorem find_row {l : List Bd} {f : List Int} (hlen : f.length ≤ 2000000) (hf : ∀ m, m ∈ f → ∃ j : Nat, j < l.length ∧ m = (j : Int)) {i : Nat} (hi : i < f.length) (r : Int × Int) (h1 : bestL l f f[i] = true → r = (f[i], 1)) (h2 : bestL l f f[i] = false → Ev (fun k => spec_l3Find.l0 k l f ((i + 1 : Nat) : Int)) r) :
    Ev (fun k => spec_l3Find.l0 k l f (i : Int)) r := by
  obtain ⟨ji, hji, hei⟩ := hf _ (List.getElem_mem hi)
  have hri := rdI_ f i hi
  refine Ev.step (fun k => by rw [spec_l3Find.l0]) (Ev.pos (by omega) ?_)
  obtain ⟨r', hp, hr⟩ := ev_loop (L := fun k (s : Int × Bool) => spec_l3Find.l1 k l f (i : Int) s.2 s.1) (fun n s => s = ((n : Int), bestI l f f[i] n)) f.length (· = r) (by
    rintro n s hn rfl
    obtain ⟨jn, hjn, hen⟩ := hf _ (List.getElem_mem hn)
    have hrn := rdI_ f n hn
    refine ⟨((n + 1 : Nat), bestI l f f[i] (n + 1)), rfl, fun r hr => ?_⟩
    rw [bestI_next l f f[i] hn] at hr
    rcases hb : bestI l f f[i] n with _ | _
    · refine Ev.step (fun k => by rw [spec_l3Find.l1]) ?_
      refine Ev.pos (by simpa using hn) (Ev.neg (by simp [hb]) ?_)
      rw [wr1 _ (by omega)]
      rw [hb, Bool.false_and] at hr
      exact hr
    · refine Ev.step (fun k => by rw [spec_l3Find.l1]) ?_
      refine Ev.pos (by simpa using hn) ?_
      refine Ev.pos (by simp [hb]) ?_
      simp only
      refine Ev.pos (by omega) ?_
      refine Ev.pos (by rw [hrn, hen]; omega) ?_
      refine Ev.pos (by rw [hrn, hen]; omega) ?_
      refine Ev.pos (by omega) ?_
      refine Ev.pos (by omega) ?_
      refine Ev.pos (by rw [hri, hei]; omega) ?_
      refine Ev.pos (by rw [hri, hei]; omega) ?_
      refine Ev.bind (g := fun _ => _) (Ev.some rfl) ?_
      rw [wr1 _ (by omega)]
      rw [hb, Bool.true_and] at hr
      have he : subI l f[n] f[i] = decide (∀ x, x ∈ (rd_T36 l (rd f (n : Int))).f1 → x ∈ (rd_T36 l (rd f (i : Int))).f1) := by
        unfold subI
        rw [hrn, hri, hen, hei, rdB hjn, rdB hji, Int.toNat_natCast, Int.toNat_natCast, bdAt_eq hjn, bdAt_eq hji]
      rw [he] at hr
      exact hr) (by
    rintro s rfl
    refine ⟨r, rfl, ?_⟩
    rcases hb : bestI l f f[i] f.length with _ | _
    · refine Ev.step (fun k => by rw [spec_l3Find.l1]) ?_
      refine Ev.neg (by simp) (Ev.neg (by simp [hb]) ?_)
      rw [wr1 _ (by omega)]
      exact h2 hb
    · refine Ev.step (fun k => by rw [spec_l3Find.l1]) ?_
      refine Ev.neg (by simp) ?_
      refine Ev.pos (by simp [hb]) ?_
      refine Ev.pos (by omega) ?_
      refine Ev.pos (by omega) ?_
      rw [hri, h1 hb]
      exact Ev.now _) (0, true) (by rw [bestI_zero]; rfl)
  subst hp
  exact hr
theorem ev_find {l : List Bd} (hl : SmB l) (x : Fm) : Ev (fun k => spec_l3Find.f k l x.f0 x.f1 x.f2 x.f3 x.f4) (boundR l x) := by
  simp only [spec_l3Find.f]
  refine Ev.bind (ev_fitting hl x) ?_
  have hlen : (fitL l x).length ≤ 2000000 := Nat.le_trans (fitI_len l x l.length) hl.1
  have hf : ∀ m, m ∈ fitL l x → ∃ j : Nat, j < l.length ∧ m = (j : Int) := fun m hm => by
    obtain ⟨i, hi, he, _⟩ := mem_fitL.1 hm
    exact ⟨i, hi, he⟩
  obtain ⟨f, hfe⟩ : ∃ f, f = fitL l x := ⟨_, rfl⟩
  have hb : ∀ i (hi : i < f.length), bestL l f f[i] = true → (∀ j (hj : j < i), bestL l f (f[j]'(by omega)) = false) → boundR l x = (f[i], 1) := by subst hfe; exact fun i hi h1 h2 => boundR_some hi h1 h2
  have hn : (∀ j (hj : j < f.length), bestL l f f[j] = false) → boundR l x = (0, if f = [] then 0 else 2) := by subst hfe; exact boundR_none
  rw [← hfe] at hlen hf ⊢
  clear hfe
  -- from place i on, where no place ahead of i is best
  have key : ∀ m i, i + m = f.length → (∀ j (hj : j < i) (h : j < f.length), bestL l f f[j] = false) → Ev (fun k => spec_l3Find.l0 k l f (i : Int)) (boundR l x) := by
    intro m
    induction m with
    | zero =>
      intro i hi hno
      obtain rfl : i = f.length := by omega
      rw [hn (fun j hj => hno j hj hj)]
      refine Ev.step (fun k => by rw [spec_l3Find.l0]) (Ev.neg (by omega) ?_)
      by_cases he : f = []
      · subst he
        exact Ev.neg (by simp) (Ev.now _)
      · rw [if_neg he]
        refine Ev.pos ?_ (Ev.now _)
        have := List.length_pos_iff.2 he
        omega
    | succ m ih =>
      intro i hi hno
      have hlt : i < f.length := by omega
      refine find_row hlen hf hlt _ (fun h => hb i hlt h (fun j hj => hno j hj (by omega))) (fun h => ih (i + 1) (by omega) (fun j hj h2 => ?_))
      by_cases e : j = i
      · subst e; exact h
      · exact hno j (by omega) h2
  exact key f.length 0 (by omega) (fun j hj => absurd hj (by omega))
theorem isName_pair {l : List Bd} {x : Fm} : pB (BdsOk l ∧ IsName x) = (pB (BdsOk l) && pB (IsName x)) := by
  by_cases h1 : BdsOk l
  · by_cases h2 : IsName x
    · rw [pB_iff.2 ⟨h1, h2⟩, pB_iff.2 h1, pB_iff.2 h2]; rfl
    · rw [← pB_no h2, ← pB_no (fun k : BdsOk l ∧ IsName x => h2 k.2), Bool.and_false]
  · rw [← pB_no h1, ← pB_no (fun k : BdsOk l ∧ IsName x => h1 k.1), Bool.false_and]
theorem bound_in {l : List Bd} {x : Fm} (h : (boundR l x).2 = 1) : ∃ j : Nat, j < l.length ∧ (boundR l x).1 = (j : Int) := by
  rcases boundR_cases l x with ⟨m, hm, _, he⟩ | ⟨_, he⟩
  · obtain ⟨i, hi, rfl, _⟩ := mem_fitL.1 hm
    exact ⟨i, hi, by rw [he]⟩
  · rw [he] at h
    by_cases hn : fitL l x = []
    · rw [if_pos hn] at h; exact absurd h (by decide)
    · rw [if_neg hn] at h; exact absurd h (by decide)
theorem ev_findName {l : List Bd} (hl : SmB l) {x : Fm} (hx : x.tot ≤ 1048576) : Ev (fun k => spec_FindName.f k l x.f0 x.f1 x.f2 x.f3 x.f4) (findR l x) := by
  simp only [spec_FindName.f]
  refine Ev.bind (ev_bindsValid hl) ?_
  unfold findR
  rw [isName_pair]
  rcases pB (BdsOk l) with _ | _
  · refine Ev.neg (by simp) (Ev.step (fun k => by rw [spec_FindName.j0]) ?_)
    exact Ev.pos rfl (Ev.now _)
  · refine Ev.pos rfl (Ev.bind (g := fun _ => _) (Ev.some (ev_l3Is hx)) ?_)
    rcases pB (IsName x) with _ | _
    · refine Ev.step (fun k => by rw [spec_FindName.j0]) ?_
      exact Ev.pos rfl (Ev.now _)
    · refine Ev.step (fun k => by rw [spec_FindName.j0]) ?_
      refine Ev.neg (by simp) (Ev.bind (ev_find hl x) ?_)
      rw [Bool.true_and, if_pos rfl]
      by_cases h1 : (boundR l x).2 = 1
      · obtain ⟨j, hj, he⟩ := bound_in h1
        refine Ev.pos h1 ?_
        rw [he, h1, if_pos rfl, Int.toNat_natCast, bdAt_eq hj]
        refine Ev.pos (by omega) (Ev.pos (by omega) ?_)
        rw [rdB hj]
        exact Ev.now _
      · refine Ev.neg h1 ?_
        rw [if_neg h1]
        exact Ev.now _
theorem ev_fittingBinds {l : List Bd} (hl : SmB l) {x : Fm} (hx : x.tot ≤ 1048576) : Ev (fun k => spec_FittingBinds.f k l x.f0 x.f1 x.f2 x.f3 x.f4) (fittingR l x) := by
  simp only [spec_FittingBinds.f]
  refine Ev.bind (ev_bindsValid hl) ?_
  unfold fittingR
  rw [isName_pair]
  rcases pB (BdsOk l) with _ | _
  · exact Ev.neg (by simp) (Ev.now _)
  · refine Ev.pos rfl (Ev.bind (g := fun _ => _) (Ev.some (ev_l3Is hx)) ?_)
    rcases pB (IsName x) with _ | _
    · exact Ev.neg (by simp) (Ev.now _)
    · exact Ev.pos rfl (Ev.bind (ev_fitting hl x) (Ev.now _))
end
end Go.Proofs.Ytcbomlmlindjdaa
end
section
namespace Go.Proofs.Ytcbomlmlindjdaa
set_option linter.unusedVariables false
set_option linter.unusedSimpArgs false
theorem find_congr {l l' : List Bd} {x x' : Fm} (h1 : BdsOk l) (h2 : BdsOk l') (h3 : IsName x) (h4 : IsName x') (hm : ∀ b, (b ∈ l ∧ fitsB x b = true) ↔ (b ∈ l' ∧ fitsB x' b = true)) : findR l x = findR l' x' := by
  have hb : ∀ b, Best l x b → Best l' x' b := fun b h => ⟨((hm b).1 ⟨h.mem, h.fits⟩).1, ((hm b).1 ⟨h.mem, h.fits⟩).2, fun c hc hf => h.top c ((hm c).2 ⟨hc, hf⟩).1 ((hm c).2 ⟨hc, hf⟩).2⟩
  have hb' : ∀ b, Best l' x' b → Best l x b := fun b h => ⟨((hm b).2 ⟨h.mem, h.fits⟩).1, ((hm b).2 ⟨h.mem, h.fits⟩).2, fun c hc hf => h.top c ((hm c).1 ⟨hc, hf⟩).1 ((hm c).1 ⟨hc, hf⟩).2⟩
  rcases find_cases l x with ⟨b, h⟩ | h | ⟨⟨b, hb1, hb2⟩, h⟩
  · rw [(findR_best h1 h3 h).1, (findR_best h2 h4 (hb b h)).1]
  · rw [findR_none h, findR_none (fun b hb => by
      rw [Bool.eq_false_iff]
      intro hf
      have := (hm b).2 ⟨hb, hf⟩
      rw [h b this.1] at this
      cases this.2)]
  · rw [(findR_many h1 h3 ⟨b, hb1, hb2⟩ h).1, (findR_many h2 h4 ⟨b, (hm b).1 ⟨hb1, hb2⟩⟩ (fun c hc => h c (hb' c hc))).1]
theorem fitting_in {l : List Bd} {x : Fm} {m : Int} (h : m ∈ fittingR l x) : BdsOk l ∧ IsName x ∧ m ∈ fitL l x := by
  unfold fittingR at h
  split at h
  · rename_i h1; exact ⟨(pB_iff.1 h1).1, (pB_iff.1 h1).2, h⟩
  · cases h
theorem fitting_yes {l : List Bd} {x : Fm} (h : BdsOk l ∧ IsName x) : fittingR l x = fitL l x := if_pos (pB_iff.2 h)
theorem find_end (l : List Bd) (x : Fm) : (findR l x).2 = 0 ∨ (findR l x).2 = 1 ∨ (findR l x).2 = 2 := by
  by_cases h : BdsOk l ∧ IsName x
  · rcases find_cases l x with ⟨b, hb⟩ | hb | ⟨hb, hn⟩
    · rw [(findR_best h.1 h.2 hb).1]; exact .inr (.inl rfl)
    · rw [findR_none hb]; exact .inl rfl
    · rw [(findR_many h.1 h.2 hb hn).1]; exact .inr (.inr rfl)
  · rw [findR_out h]; exact .inl rfl
theorem fit_place {l : List Bd} {x : Fm} {f : List Int} (hf : fittingR l x = f) (i : Nat) (h : i < f.length) : ∃ j : Nat, ∃ hj : j < l.length, f[i] = (j : Int) ∧ fitsB x l[j] = true := by
  have hm : f[i] ∈ fittingR l x := by rw [hf]; exact List.getElem_mem h
  obtain ⟨j, hj, e, hb⟩ := mem_fitL.1 (fitting_in hm).2.2
  rw [bdAt_eq hj] at hb
  exact ⟨j, hj, e, hb⟩
/-! References. -/
theorem same_iff {l : List Bd} {x y : Fm} : sameR l x y = true ↔ (BdsOk l ∧ IsName x ∧ IsName y) ∧ ((findR l x).2 = 1 ∧ (findR l y).2 = 1 ∧ (findR l x).1 = (findR l y).1 ∨ (findR l x).2 = 0 ∧ (findR l y).2 = 0 ∧ x.f1.toList = y.f1.toList) := by
  unfold sameR refB
  rw [Bool.and_eq_true, pB_iff]
  rw [Bool.or_eq_true, Bool.and_eq_true, Bool.and_eq_true, Bool.and_eq_true, Bool.and_eq_true, beq_iff_eq, beq_iff_eq, beq_iff_eq, beq_iff_eq, beq_iff_eq, decide_eq_true_iff, and_assoc (a := (findR l x).2 = 1), and_assoc (a := (findR l x).2 = 0)]
/-! Bindings that hide others; bindings that are taken away. -/
theorem srt_nodup {l : List Int} (h : Srt l) : l.Nodup := h.imp (fun h => by omega)
theorem nodup_sub_len : ∀ {a b : List Int}, a.Nodup → (∀ s, s ∈ a → s ∈ b) → a.length ≤ b.length
  | [], b, _, _ => by simp
  | x :: a, b, hn, hs => by
    obtain ⟨h1, h2⟩ := List.nodup_cons.1 hn
    have hx := hs x List.mem_cons_self
    have ih := nodup_sub_len (a := a) (b := b.erase x) h2 (fun s h => by
      have hne : s ≠ x := fun e => h1 (e ▸ h)
      exact (List.mem_erase_of_ne hne).2 (hs s (List.mem_cons_of_mem _ h)))
    have := List.length_erase_of_mem hx
    have := List.length_pos_of_mem hx
    simp only [List.length_cons]
    omega
/-! More scopes. -/
theorem name_chS {x : Fm} (h : x.f0 = 1) (g : List Int → List Int) : (x.chS g).f0 = 1 ∧ (x.chS g).f1 = x.f1 ∧ (x.chS g).f3 = g x.f3 := by
  rw [Fm.chS_eq]
  exact ⟨h, rfl, if_pos h⟩
theorem fitting_more {l : List Bd} {x y : Fm} {n : Int} (hz : reS (fun l => putS l n) n x = (y, true)) : (∀ m, m ∈ fittingR l x → m ∈ fittingR l y) ∧ (fittingR l x).length ≤ (fittingR l y).length := by
  obtain ⟨h1, _, _, h4, rfl⟩ := reS_true hz
  have hs : ∀ m, m ∈ fittingR l x → m ∈ fittingR l (x.chS fun l => putS l n) := fun m hm => by
    obtain ⟨a, b, c⟩ := fitting_in hm
    obtain ⟨e0, e1, e3⟩ := name_chS b.1 (fun l => putS l n)
    rw [fitting_yes ⟨a, e0, h4⟩]
    obtain ⟨j, hj, rfl, hf⟩ := mem_fitL.1 c
    refine mem_fitL.2 ⟨j, hj, rfl, fitsB_iff.2 ⟨by rw [e1]; exact (fitsB_iff.1 hf).1, fun s hs => ?_⟩⟩
    rw [e3, mem_putS]
    exact .inl ((fitsB_iff.1 hf).2 s hs)
  refine ⟨hs, nodup_sub_len ?_ hs⟩
  unfold fittingR
  split
  · exact srt_nodup (fitL_srt l x)
  · exact List.nodup_nil
theorem find_more {l : List Bd} {x y : Fm} {n : Int} (hz : reS (fun l => putS l n) n x = (y, true)) (h0 : x.f0 = 1) (hn : ∀ b, b ∈ l → n ∉ b.f1) : findR l y = findR l x ∧ ((findR l x).2 = 2 ∨ ¬ BdsOk l ∨ sameR l x y = true) := by
  obtain ⟨h1, _, _, h4, rfl⟩ := reS_true hz
  obtain ⟨e0, e1, e3⟩ := name_chS h0 (fun l => putS l n)
  have hf : findR l (x.chS fun l => putS l n) = findR l x := by
    by_cases h : BdsOk l
    · refine find_congr h h ⟨e0, h4⟩ ⟨h0, h1⟩ (fun b => ?_)
      refine and_congr_right (fun hb => ?_)
      rw [fitsB_iff, fitsB_iff, e1, e3]
      refine and_congr_right (fun _ => forall_congr' (fun s => ?_))
      refine imp_congr_right (fun hs => ?_)
      rw [mem_putS]
      constructor
      · rintro (h | rfl)
        · exact h
        · exact absurd hs (hn b hb)
      · exact .inl
    · rw [findR_out (fun k => h k.1), findR_out (fun k => h k.1)]
  refine ⟨hf, ?_⟩
  by_cases h2 : (findR l x).2 = 2
  · exact .inl h2
  by_cases h : BdsOk l
  · refine .inr (.inr (same_iff.2 ⟨⟨h, ⟨h0, h1⟩, ⟨e0, h4⟩⟩, ?_⟩))
    rw [hf, e1]
    rcases find_end l x with k | k | k
    · exact .inr ⟨k, k, rfl⟩
    · exact .inl ⟨k, k, rfl⟩
    · exact absurd k h2
  · exact .inr (.inl h)
theorem fitting_le (l : List Bd) (x : Fm) : (fittingR l x).length ≤ l.length := by
  unfold fittingR
  split
  · exact fitI_len l x l.length
  · simp
end Go.Proofs.Ytcbomlmlindjdaa
end
section
namespace Go.Proofs.Ytcbomlmlindjdaa
open Go.RowKit Go.Proofs.YtcbomlmlindjdaaW.PrintWords
set_option linter.unusedVariables false
set_option linter.unusedSimpArgs false
section
open Go.Proofs.Ytcbomlmlindjdaa.Q
theorem ev_implFittingBinds {l : List Bd} (hl : SmB l) {x : Fm} (hx : x.tot ≤ 1048576) : Ev (fun k => impl_FittingBinds.f k l x.f0 x.f1 x.f2 x.f3 x.f4) (fittingR l x) := by
  simp only [impl_FittingBinds.f]
  have hb : impl_BindsValid.f l = some (pB (BdsOk l)) := gIf_yes (fun b hb => by have := (hl.2 b hb).1; omega) _
  have hn : impl_isName.f x.f0 x.f1 x.f2 x.f3 x.f4 = some (pB (IsName x)) := by
    unfold impl_isName.f
    by_cases h : x.f0 = 1
    · rw [if_pos h, show impl_FormValid.f x.f0 x.f1 x.f2 x.f3 x.f4 = some (pB (FmOk x)) from by cases x; exact gIf_yes hx _]
      show some (pB (FmOk x)) = _
      congr 1
      by_cases hv : FmOk x
      · rw [pB_iff.2 hv, pB_iff.2 ⟨h, hv⟩]
      · rw [← pB_no hv, ← pB_no (fun k : IsName x => hv k.2)]
    · rw [if_neg h, ← pB_no (fun k : IsName x => h k.1)]
  refine Ev.bind (g := fun _ => _) (Ev.some hb) ?_
  unfold fittingR
  rw [isName_pair]
  rcases pB (BdsOk l) with _ | _
  · exact Ev.neg (by simp) (Ev.now _)
  · refine Ev.pos rfl (Ev.bind (g := fun _ => _) (Ev.some hn) ?_)
    rcases pB (IsName x) with _ | _
    · exact Ev.neg (by simp) (Ev.now _)
    · exact Ev.pos rfl (Ev.bind (ev_implFitting hl x) (Ev.now _))
end
theorem implFittingB_any (l : List Bd) (A : Option Addr) (c : Nat) (x : Fm) (A3 : Option Addr) (c3 : Nat) (A4 : Option Addr) (c4 : Nat) (w : World) (hr : kB.C w A l.length l) (hc : l.length ≤ c) (hx : FmIn w x A3 c3 A4 c4) (hs : SmB l) (ht : x.tot ≤ 1048576) :
    Calls Try.prog 25 #[.slice A l.length c, .agg #[.int .i64 x.f0, .string x.f1, .int .i64 x.f2, .slice A3 x.f3.length c3, .slice A4 x.f4.length c4]] w (RetI w (fittingR l x)) := by
  obtain ⟨k, hk⟩ := (ev_implFittingBinds hs ht).rounds
  exact Q.impl_FittingBinds.calls k A c l x.f0 x.f1 x.f2 A3 c3 x.f3 A4 c4 x.f4 _ w hr hc hx.g3 hx.l3 hx.g4 hx.l4 hk
theorem specFittingB_any (l : List Bd) (A : Option Addr) (c : Nat) (x : Fm) (A3 : Option Addr) (c3 : Nat) (A4 : Option Addr) (c4 : Nat) (w : World) (hr : kB.C w A l.length l) (hc : l.length ≤ c) (hx : FmIn w x A3 c3 A4 c4) (hs : SmB l) (ht : x.tot ≤ 1048576) :
    Calls Try.prog 38 #[.slice A l.length c, .agg #[.int .i64 x.f0, .string x.f1, .int .i64 x.f2, .slice A3 x.f3.length c3, .slice A4 x.f4.length c4]] w (RetI w (fittingR l x)) := by
  obtain ⟨k, hk⟩ := (ev_fittingBinds hs ht).rounds
  exact Q.spec_FittingBinds.calls k A c l x.f0 x.f1 x.f2 A3 c3 x.f3 A4 c4 x.f4 _ w hr hc hx.g3 hx.l3 hx.g4 hx.l4 hk
end Go.Proofs.Ytcbomlmlindjdaa
end
section
namespace Go.Proofs.Ytcbomlmlindjdaa
open Go.RowKit Go.Proofs.YtcbomlmlindjdaaW.PrintWords Go.Proofs.YtcbomlmlindjdaaW.PrintLast Go.Proofs.YtcbomlmlindjdaaW.PrintMore
set_option linter.unusedVariables false
set_option linter.unusedSimpArgs false
/-- Two ints are handed back. -/
def Ret2 (w : World) (p : Int × Int) (e : Ending) (w' : World) : Prop := e = .returned (.tuple #[.int .i64 p.1, .int .i64 p.2]) ∧ Below w.heap.size w w'
theorem any_not_best (l : List Bd) (f : List Int) (m : Int) : (f.any fun j => !subI l j m) = !bestL l f m := by
  unfold bestL bestI
  rw [List.take_length]
  induction f with
  | nil => rfl
  | cons a f ih => simp only [List.any_cons, List.all_cons, ih, Bool.not_and]
set_option maxHeartbeats 2000000 in
theorem bound1_any (l : List Bd) (A : Option Addr) (c : Nat) (i j : Nat) (hi : i < l.length) (hj : j < l.length) (g h : Nat) (w : World) (hr : kB.C w A l.length l) (hc : l.length ≤ c)
    (hg : w.heap[g]? = some (.cells #[.slice A l.length c] 23 (0, 0))) (hh : w.heap[h]? = some (.cells #[.int .i64 (i : Int)] 3 (0, 0))) :
    Calls Try.prog 81 #[.int .i64 (j : Int), .pointer (some ⟨g, 0, none⟩), .pointer (some ⟨h, 0, none⟩)] w (Ret w (.bool (!subI l (j : Int) (i : Int)))) := by
  obtain ⟨ad, J1, jc, e, a0, a1, a2, hkj⟩ := bd_at hr j hj
  obtain ⟨ad2, I1, ic, e2, b0, b1, b2, hki⟩ := bd_at hr i hi
  subst e
  obtain rfl : ad = ad2 := by injection e2
  have pg : w.cell? ⟨g, 0, none⟩ = some (.slice (some ad) l.length c) := (blk_cell hg 0).trans rfl
  have ph : w.cell? ⟨h, 0, none⟩ = some (.int .i64 (i : Int)) := (blk_cell hh 0).trans rfl
  have q1 : (0 : Int) ≤ (j : Int) := by omega
  have q2 : (j : Int) < (l.length : Int) := by omega
  have q3 : (0 : Int) ≤ (i : Int) := by omega
  have q4 : (i : Int) < (l.length : Int) := by omega
  rw [← bdAt_eq hj] at a1 hkj
  rw [← bdAt_eq hi] at b1 hki
  unfold subI
  rw [Int.toNat_natCast, Int.toNat_natCast]
  clear e2 hg hh a0 a2 b0 b2 hr
  generalize bdAt l j = bj at a1 hkj ⊢
  generalize bdAt l i = bi at b1 hki ⊢
  have HC := Lib.hid (fun W hb => implWithin_any bj.f1 bi.f1 J1 I1 jc ic W (Kd.C_below hkj.g1 hb) hkj.l1 (Kd.C_below hki.g1 hb) hki.l1)
  generalize decide (∀ x, x ∈ bj.f1 → x ∈ bi.f1) = r at HC ⊢
  clear hkj hki
  go_enter Try.func81, Try.ntmps81
  go_wp2_with fail
  go_region_held3 (fun W => W.cell? ⟨g, 0, none⟩ = some (.slice (some ad) l.length c) ∧ W.cell? ⟨h, 0, none⟩ = some (.int .i64 (i : Int)) ∧ W.cell? ⟨(ad.add (j * 3)).block, (ad.add (j * 3)).off + 1, none⟩ = some (.slice J1 bj.f1.length jc) ∧ W.cell? ⟨(ad.add (i * 3)).block, (ad.add (i * 3)).off + 1, none⟩ = some (.slice I1 bi.f1.length ic)) (first | go_keep | exact ⟨ck0 (below_step (Below.refl _ _).drew hb1) pg, ck0 (below_step (Below.refl _ _).drew hb1) ph, ck0 (below_step (Below.refl _ _).drew hb1) a1, ck0 (below_step (Below.refl _ _).drew hb1) b1⟩) ((go_at_call 26; refine (HC.out _ (Below.refl _ _).drew).mono ?_; rintro e w1 ⟨rfl, hb1⟩))
  have HB := Lib.hid (below_step (Below.refl _ _).drew hb1)
  clear hb1
  go_wp2_with fail
  go_ret
  exact ⟨rfl, HB.out⟩
set_option maxHeartbeats 4000000 in
set_option maxRecDepth 100000 in
theorem bound_any (l : List Bd) (A : Option Addr) (c : Nat) (x : Fm) (A3 : Option Addr) (c3 : Nat) (A4 : Option Addr) (c4 : Nat) (w : World) (hr : kB.C w A l.length l) (hc : l.length ≤ c) (hx : FmIn w x A3 c3 A4 c4) (hs : SmB l) :
    Calls Try.prog 53 #[.slice A l.length c, .agg #[.int .i64 x.f0, .string x.f1, .int .i64 x.f2, .slice A3 x.f3.length c3, .slice A4 x.f4.length c4]] w (Ret2 w (boundR l x)) := by
  have eg : ∀ args w, (callFunc 81 args).run Try.prog w = .ok (.enter 81 args) w := enters_of Try.func81 (by kernel_rfl) rfl
  obtain ⟨k, hk⟩ := (ev_implFitting hs x).rounds
  have HF := Lib.hid (fun W hb => Q.impl_fitting.calls k A c l x.f0 x.f1 x.f2 A3 c3 x.f3 A4 c4 x.f4 (fitL l x) W (Kd.C_below hr hb) hc (Kd.C_below hx.g3 hb) hx.l3 (Kd.C_below hx.g4 hb) hx.l4 hk)
  have hfm : ∀ m, m ∈ fitL l x → ∃ j : Nat, j < l.length ∧ m = (j : Int) := fun m hm => by
    obtain ⟨i, hi, he, _⟩ := mem_fitL.1 hm
    exact ⟨i, hi, he⟩
  have hlen : (fitL l x).length ≤ 2000000 := Nat.le_trans (fitI_len l x l.length) hs.1
  obtain ⟨f, hfe⟩ : ∃ f, f = fitL l x := ⟨_, rfl⟩
  have hB : ∀ i (hi : i < f.length), bestL l f f[i] = true → (∀ j (hj : j < i), bestL l f (f[j]'(by omega)) = false) → boundR l x = (f[i], 1) := by subst hfe; exact fun i hi h1 h2 => boundR_some hi h1 h2
  have hN : (∀ j (hj : j < f.length), bestL l f f[j] = false) → boundR l x = (0, if f = [] then 0 else 2) := by subst hfe; exact boundR_none
  rw [← hfe] at hfm hlen HF
  clear hfe hk hs
  generalize boundR l x = r at hB hN ⊢
  have HB := Lib.hid hB
  have HN := Lib.hid hN
  have HM := Lib.hid hfm
  have HR := Lib.hid (fun W (hb : Below w.heap.size w W) => Kd.C_below hr hb)
  have EG := Lib.hid eg
  clear hB hN hfm hr hx eg
  go_enter Try.func53, Try.ntmps53
  have kk := two_new (w := w) (O1 := .cells #[.slice A l.length c] 23) (O2 := .cells #[.int .i64 x.f0, .string x.f1, .int .i64 x.f2, .slice A3 x.f3.length c3, .slice A4 x.f4.length c4] 30) (Below.refl _ _)
  obtain ⟨k0, k1, b0⟩ := kk
  obtain ⟨q0, q1, q2, q3, q4⟩ := fm_cells k1
  have q5 := (blk_cell k0 0).trans rfl
  have K0 := Lib.hid k0
  have B0 := Lib.hid b0
  clear k0 k1 b0
  go_wp2_with fail
  refine (HF.out _ B0.out).mono ?_
  rintro e w1 ⟨v, rfl, hR, hb⟩
  obtain ⟨F, fc, rfl, hfc, hF⟩ := Kd.R_reads hR
  have K1 := Lib.hid (blk_below K0.out hb)
  have B1 := Lib.hid (below_step B0.out hb)
  have IF := Lib.hid hF
  clear hR hb hF q0 q1 q2 q3 q4 q5 HF K0 B0
  by_cases hnil : f = []
  · have t1 : ((f.length : Int) == 0) = true := by simp [hnil]
    have t2 : (f.length == 0) = true := by simp [hnil]
    have hr := HN.out (fun j hj => absurd hj (by simp [hnil]))
    rw [if_pos hnil] at hr
    have HR2 := Lib.hid hr
    clear hr hnil
    go_wp2_with fail
    refine bodyPost_ret (v := .tuple #[.int .i64 0, .int .i64 0]) (by simp [results, Try.results53, go_sem]) rfl ?_
    rw [HR2.out]
    exact ⟨rfl, B1.out⟩
  have hpos := List.length_pos_iff.2 hnil
  have t1 : ((f.length : Int) == 0) = false := beq_eq_false_iff_ne.mpr (by omega)
  have t2 : (f.length == 0) = false := beq_eq_false_iff_ne.mpr (by omega)
  have HNN := Lib.hid hnil
  clear hnil
  go_wp2_with fail
  go_loopg [8, 17] f.length (fun kq v8 v17 w' => ∃ i : Nat, i ≤ f.length ∧ f.length - i ≤ kq ∧ v17 = .int .i64 i ∧ Aside0 (∀ j (h : j < f.length), j < i → bestL l f f[j] = false) ∧ Aside0 (Below w1.heap.size w1 w'))
  case atStart => exact ⟨0, Nat.zero_le _, by omega, rfl, ⟨fun j _ h => absurd h (by omega)⟩, ⟨Below.refl _ _⟩⟩
  case round =>
    obtain ⟨i, hi, hg, rfl, HNO, HW⟩ := hrel
    by_cases hlt : i < f.length
    · obtain ⟨ad, e, hcell⟩ := int_at (Kd.C_below IF.out HW.out) i hlt
      subst e
      obtain ⟨ji, hji, hei⟩ := HM.out _ (List.getElem_mem hlt)
      have bn := below_new wr (.cells #[.int .i64 (ji : Int)] 3)
      have kn := blk_new wr (.cells #[.int .i64 (ji : Int)] 3)
      have HC := Lib.hid (containsFuncI_any f (fun m => !subI l m (ji : Int)) 81 #[.pointer (some ⟨w.heap.size, 0, none⟩), .pointer (some ⟨wr.heap.size, 0, none⟩)] EG.out (some ad) fc (wr.alloc (.cells #[.int .i64 (ji : Int)] 3)) (Kd.C_below (Kd.C_below IF.out HW.out) bn) hfc
        (fun m hm W hb => by
          obtain ⟨jm, hjm, rfl⟩ := HM.out m hm
          exact bound1_any l A c ji jm hji hjm w.heap.size wr.heap.size W (HR.out W (below_step (below_step (below_step B1.out HW.out) bn) hb)) hc (blk_below (blk_below (blk_below K1.out HW.out) bn) hb) (blk_below kn hb)))
      rw [any_not_best, ← hei] at HC
      have q8 := (blk_cell kn 0).trans rfl
      have HBN := Lib.hid bn
      have HKN := Lib.hid kn
      rw [hei] at hcell
      have p1 : (0 : Int) ≤ (i : Int) := by omega
      have p2 : (i : Int) < (f.length : Int) := by omega
      rcases hbest : bestL l f f[i] with _ | _
      · rw [hbest] at HC
        have HNX := Lib.hid hbest
        rw [hei] at HC
        clear hbest bn kn
        go_wp2_with fail
        refine HC.out.mono ?_
        rintro e w3 ⟨rfl, hb3⟩
        have HB3 := Lib.hid (below_step HW.out (below_step HBN.out hb3))
        clear hb3 q8
        go_wp2_with fail
        go_roundg (f.length - (i + 1))
        case measure => omega
        case rel =>
          refine ⟨i + 1, by omega, Nat.le_refl _, by go_num, ⟨fun j hj hlt2 => ?_⟩, ⟨HB3.out⟩⟩
          by_cases e : j = i
          · subst e; exact HNX.out
          · exact HNO.out j hj (by omega)
      · rw [hbest] at HC
        have HRR := Lib.hid (HB.out i hlt hbest (fun j hj => HNO.out j _ hj))
        rw [hei] at HC HRR
        clear hbest bn kn
        go_wp2_with fail
        refine HC.out.mono ?_
        rintro e w3 ⟨rfl, hb3⟩
        have q9 := (blk_cell (blk_below HKN.out hb3) 0).trans rfl
        have HB3 := Lib.hid (below_step B1.out (below_step HW.out (below_step HBN.out hb3)))
        clear hb3 q8
        go_wp2_with fail
        refine bodyPost_ret (v := .tuple #[.int .i64 (ji : Int), .int .i64 1]) (by simp [results, Try.results53, go_sem]) rfl ?_
        rw [HRR.out]
        exact ⟨rfl, HB3.out⟩
    · obtain rfl : i = f.length := by omega
      have hr := HN.out (fun j hj => HNO.out j hj hj)
      rw [if_neg HNN.out] at hr
      have HR2 := Lib.hid hr
      clear hr
      go_wp2_with fail
      refine bodyPost_ret (v := .tuple #[.int .i64 0, .int .i64 2]) (by simp [results, Try.results53, go_sem]) rfl ?_
      rw [HR2.out]
      exact ⟨rfl, below_step B1.out HW.out⟩
end Go.Proofs.Ytcbomlmlindjdaa
end
section
namespace Go.Proofs.Ytcbomlmlindjdaa
open Go.RowKit Go.Proofs.YtcbomlmlindjdaaW.PrintWords Go.Proofs.YtcbomlmlindjdaaW.PrintLast Go.Proofs.YtcbomlmlindjdaaW.PrintMore
set_option linter.unusedVariables false
set_option linter.unusedSimpArgs false
theorem Ret2.open {w : World} {a b : Int} {e : Ending} {w' : World} (h : Ret2 w (a, b) e w') : e = .returned (.tuple #[.int .i64 a, .int .i64 b]) ∧ Below w.heap.size w w' := h
set_option maxHeartbeats 4000000 in
set_option maxRecDepth 100000 in
theorem implFind_any (l : List Bd) (A : Option Addr) (c : Nat) (x : Fm) (A3 : Option Addr) (c3 : Nat) (A4 : Option Addr) (c4 : Nat) (w : World) (hr : kB.C w A l.length l) (hc : l.length ≤ c) (hx : FmIn w x A3 c3 A4 c4) (hs : SmB l) (ht : x.tot ≤ 1048576) :
    Calls Try.prog 19 #[.slice A l.length c, .agg #[.int .i64 x.f0, .string x.f1, .int .i64 x.f2, .slice A3 x.f3.length c3, .slice A4 x.f4.length c4]] w (Ret2 w (findR l x)) := by
  have hout : ∀ h : pB (BdsOk l) = false ∨ pB (IsName x) = false, findR l x = (0, 0) := fun h => findR_out (fun k => by
    rcases h with h | h
    · exact pB_false h k.1
    · exact pB_false h k.2)
  have hin : pB (BdsOk l) = true → pB (IsName x) = true → findR l x = (if (boundR l x).2 = 1 then ((bdAt l (boundR l x).1.toNat).f2, 1) else (0, (boundR l x).2)) := fun h1 h2 => by
    unfold findR
    rw [if_pos (pB_iff.2 ⟨pB_iff.1 h1, pB_iff.1 h2⟩)]
  have hbi : (boundR l x).2 = 1 → ∃ j : Nat, j < l.length ∧ (boundR l x).1 = (j : Int) := bound_in
  have HO := Lib.hid hout
  have HIN := Lib.hid hin
  have HBI := Lib.hid hbi
  have HR := Lib.hid (fun W (hb : Below w.heap.size w W) => Kd.C_below hr hb)
  have HX := Lib.hid hx
  have HS := Lib.hid hs
  clear hout hin hbi hr hx hs
  generalize findR l x = r at HO HIN ⊢
  go_enter Try.func19, Try.ntmps19
  go_wp2_with fail
  refine (implBinds_any l A c _ (HR.out _ (below_new _ _)) hc (fun b hb => by have := (HS.out.2 b hb).1; omega)).mono ?_
  rintro e w1 ⟨rfl, hb⟩
  obtain ⟨k0, b1⟩ := one_new hb
  have K0 := Lib.hid k0
  have B1 := Lib.hid b1
  clear hb k0 b1
  rcases hv : pB (BdsOk l) with _ | _
  · have HE := Lib.hid (HO.out (.inl hv))
    clear hv
    go_wp2_with fail
    refine bodyPost_ret (v := .tuple #[.int .i64 0, .int .i64 0]) (by simp [results, Try.results19, go_sem]) rfl ?_
    rw [HE.out]
    exact ⟨rfl, B1.out⟩
  · have HV := Lib.hid hv
    clear hv
    obtain ⟨p0, p1, p2, p3, p4⟩ := fm_cells K0.out
    go_wp2_with fail
    clear p0 p1 p2 p3 p4
    refine (isName_any x A3 c3 A4 c4 w1 (HX.out.below B1.out) ht).mono ?_
    rintro e w2 ⟨rfl, hb⟩
    have K1 := Lib.hid (blk_below K0.out hb)
    have B2 := Lib.hid (below_step B1.out hb)
    clear hb
    rcases hn : pB (IsName x) with _ | _
    · have HE := Lib.hid (HO.out (.inr hn))
      clear hn
      go_wp2_with fail
      refine bodyPost_ret (v := .tuple #[.int .i64 0, .int .i64 0]) (by simp [results, Try.results19, go_sem]) rfl ?_
      rw [HE.out]
      exact ⟨rfl, B2.out⟩
    · have HE := Lib.hid (HIN.out HV.out hn)
      clear hn
      obtain ⟨p0, p1, p2, p3, p4⟩ := fm_cells K1.out
      go_wp2_with fail
      clear p0 p1 p2 p3 p4
      have HBD := Lib.hid (bound_any l A c x A3 c3 A4 c4 w2 (HR.out _ B2.out) hc (HX.out.below B2.out) HS.out)
      rcases hbr : boundR l x with ⟨mm, en⟩
      rw [hbr] at HBD HE HBI
      clear hbr
      refine HBD.out.mono ?_
      intro e w3 hret
      obtain ⟨rfl, hb⟩ := hret.open
      have B3 := Lib.hid (below_step B2.out hb)
      clear hb HO HIN hret HBD
      by_cases h1 : en = 1
      · obtain ⟨j, hj, hmj⟩ := HBI.out h1
        simp only at hmj
        subst hmj h1
        obtain ⟨ad, J1, jc, e, a0, a1, a2, _⟩ := bd_at (HR.out _ B3.out) j hj
        subst e
        have he := HE.out
        simp only at he
        rw [if_pos (by trivial), Int.toNat_natCast, bdAt_eq hj] at he
        have HF := Lib.hid he
        have q1 : (0 : Int) ≤ (j : Int) := by omega
        have q2 : (j : Int) < (l.length : Int) := by omega
        clear he a0 a1
        go_wp2_with fail
        refine bodyPost_ret (v := .tuple #[.int .i64 l[j].f2, .int .i64 1]) (by simp [results, Try.results19, go_sem]) rfl ?_
        rw [HF.out]
        exact ⟨rfl, B3.out⟩
      · have t1 : (en != 1) = true := by simpa using h1
        have he := HE.out
        simp only at he
        rw [if_neg h1] at he
        have HF := Lib.hid he
        clear he h1
        go_wp2_with fail
        refine bodyPost_ret (v := .tuple #[.int .i64 0, .int .i64 en]) (by simp [results, Try.results19, go_sem]) rfl ?_
        rw [HF.out]
        exact ⟨rfl, B3.out⟩
theorem specFind_any (l : List Bd) (A : Option Addr) (c : Nat) (x : Fm) (A3 : Option Addr) (c3 : Nat) (A4 : Option Addr) (c4 : Nat) (w : World) (hr : kB.C w A l.length l) (hc : l.length ≤ c) (hx : FmIn w x A3 c3 A4 c4) (hs : SmB l) (ht : x.tot ≤ 1048576) :
    Calls Try.prog 20 #[.slice A l.length c, .agg #[.int .i64 x.f0, .string x.f1, .int .i64 x.f2, .slice A3 x.f3.length c3, .slice A4 x.f4.length c4]] w (Ret2 w (findR l x)) := by
  obtain ⟨k, hk⟩ := (ev_findName hs ht).rounds
  rcases hf : findR l x with ⟨a, b⟩
  rw [hf] at hk
  exact Q.spec_FindName.calls k A c l x.f0 x.f1 x.f2 A3 c3 x.f3 A4 c4 x.f4 _ _ w hr hc hx.g3 hx.l3 hx.g4 hx.l4 hk
end Go.Proofs.Ytcbomlmlindjdaa
end
section
namespace Go.Proofs.Ytcbomlmlindjdaa
open Go.RowKit Go.Proofs.YtcbomlmlindjdaaW.PrintWords Go.Proofs.YtcbomlmlindjdaaW.PrintLast Go.Proofs.YtcbomlmlindjdaaW.PrintMore
set_option linter.unusedVariables false
set_option linter.unusedSimpArgs false
end Go.Proofs.Ytcbomlmlindjdaa
end
section
namespace Go.Proofs.Ytcbomlmlindjdaa
open Go.RowKit Go.Proofs.YtcbomlmlindjdaaW.PrintWords Go.Proofs.YtcbomlmlindjdaaW.PrintLast Go.Proofs.YtcbomlmlindjdaaW.PrintMore
set_option linter.unusedVariables false
set_option linter.unusedSimpArgs false
theorem sameR_in {l : List Bd} {x y : Fm} (h1 : BdsOk l) (h2 : IsName x) (h3 : IsName y) : sameR l x y = refB (findR l x) (findR l y) x y := by
  unfold sameR
  rw [pB_iff.2 ⟨h1, h2, h3⟩]; rfl
theorem sameR_out {l : List Bd} {x y : Fm} (h : ¬ (BdsOk l ∧ IsName x ∧ IsName y)) : sameR l x y = false := by
  unfold sameR
  rw [← pB_no h]; rfl
section
open Go.Proofs.Ytcbomlmlindjdaa.Q
end
theorem Ret2.b {w : World} {p : Int × Int} {a b : Int} (hp : p = (a, b)) {e : Ending} {w' : World} (h : Ret2 w p e w') : e = .returned (.tuple #[.int .i64 a, .int .i64 b]) ∧ Below w.heap.size w w' := by subst hp; exact h
set_option maxHeartbeats 4000000 in
set_option maxRecDepth 100000 in
theorem implSameRef_any (l : List Bd) (A : Option Addr) (c : Nat) (x : Fm) (A3 : Option Addr) (c3 : Nat) (A4 : Option Addr) (c4 : Nat) (y : Fm) (B3 : Option Addr) (d3 : Nat) (B4 : Option Addr) (d4 : Nat) (w : World) (hr : kB.C w A l.length l) (hc : l.length ≤ c) (hx : FmIn w x A3 c3 A4 c4) (hy : FmIn w y B3 d3 B4 d4) (hs : SmB l) (tx : x.tot ≤ 1048576) (ty : y.tot ≤ 1048576) :
    Calls Try.prog 28 #[.slice A l.length c, .agg #[.int .i64 x.f0, .string x.f1, .int .i64 x.f2, .slice A3 x.f3.length c3, .slice A4 x.f4.length c4], .agg #[.int .i64 y.f0, .string y.f1, .int .i64 y.f2, .slice B3 y.f3.length d3, .slice B4 y.f4.length d4]] w (Ret w (.bool (sameR l x y))) := by
  have hout : (pB (BdsOk l) = false ∨ pB (IsName x) = false ∨ pB (IsName y) = false) → sameR l x y = false := fun h => sameR_out (fun k => by
    rcases h with h | h | h
    · exact pB_false h k.1
    · exact pB_false h k.2.1
    · exact pB_false h k.2.2)
  have hin : pB (BdsOk l) = true → pB (IsName x) = true → pB (IsName y) = true → sameR l x y = refB (findR l x) (findR l y) x y := fun h1 h2 h3 => sameR_in (pB_iff.1 h1) (pB_iff.1 h2) (pB_iff.1 h3)
  have HO := Lib.hid hout
  have HIN := Lib.hid hin
  have HR := Lib.hid (fun W (hb : Below w.heap.size w W) => Kd.C_below hr hb)
  have HX := Lib.hid hx
  have HY := Lib.hid hy
  have HS := Lib.hid hs
  clear hout hin hr hx hy hs
  generalize sameR l x y = r at HO HIN ⊢
  go_enter Try.func28, Try.ntmps28
  go_wp2_with fail
  refine (implBinds_any l A c _ (HR.out _ (below_step (below_new _ _) (below_new _ _))) hc (fun b hb => by have := (HS.out.2 b hb).1; omega)).mono ?_
  rintro e w1 ⟨rfl, hb⟩
  obtain ⟨k0, k1, b1⟩ := two_new hb
  have K0 := Lib.hid k0
  have K1 := Lib.hid k1
  have B1 := Lib.hid b1
  clear hb k0 k1 b1
  rcases hv : pB (BdsOk l) with _ | _
  · have HE := Lib.hid (HO.out (.inl hv))
    clear hv
    go_wp2_with fail
    go_ret
    exact ⟨ret_b HE.out.symm, B1.out⟩
  have HV := Lib.hid hv
  clear hv
  obtain ⟨p0, p1, p2, p3, p4⟩ := fm_cells K0.out
  go_wp2_with fail
  clear p0 p1 p2 p3 p4
  refine (isName_any x A3 c3 A4 c4 w1 (HX.out.below B1.out) tx).mono ?_
  rintro e w2 ⟨rfl, hb⟩
  replace K0 := Lib.hid (blk_below K0.out hb)
  replace K1 := Lib.hid (blk_below K1.out hb)
  replace B1 := Lib.hid (below_step B1.out hb)
  clear hb
  rcases hn : pB (IsName x) with _ | _
  · have HE := Lib.hid (HO.out (.inr (.inl hn)))
    clear hn
    go_wp2_with fail
    go_ret
    exact ⟨ret_b HE.out.symm, B1.out⟩
  have HNX := Lib.hid hn
  clear hn
  obtain ⟨p0, p1, p2, p3, p4⟩ := fm_cells K1.out
  go_wp2_with fail
  clear p0 p1 p2 p3 p4
  refine (isName_any y B3 d3 B4 d4 w2 (HY.out.below B1.out) ty).mono ?_
  rintro e w3 ⟨rfl, hb⟩
  replace K0 := Lib.hid (blk_below K0.out hb)
  replace K1 := Lib.hid (blk_below K1.out hb)
  replace B1 := Lib.hid (below_step B1.out hb)
  clear hb
  rcases hm : pB (IsName y) with _ | _
  · have HE := Lib.hid (HO.out (.inr (.inr hm)))
    clear hm
    go_wp2_with fail
    go_ret
    exact ⟨ret_b HE.out.symm, B1.out⟩
  have HE0 := Lib.hid (HIN.out HV.out HNX.out hm)
  clear hm HO HIN HV HNX
  rcases hfx : findR l x with ⟨u, p⟩
  rcases hfy : findR l y with ⟨v, q⟩
  have hee := HE0.out
  rw [hfx, hfy] at hee
  have HE := Lib.hid hee
  have HFX := Lib.hid (implFind_any l A c x A3 c3 A4 c4 w3 (HR.out _ B1.out) hc (HX.out.below B1.out) HS.out tx)
  have HPX := Lib.hid hfx
  have HPY := Lib.hid hfy
  clear hee hfx hfy HE0
  obtain ⟨p0, p1, p2, p3, p4⟩ := fm_cells K0.out
  go_wp2_with fail
  clear p0 p1 p2 p3 p4
  refine HFX.out.mono ?_
  intro e w4 hret
  obtain ⟨rfl, hb⟩ := Ret2.b HPX.out hret
  replace K0 := Lib.hid (blk_below K0.out hb)
  replace K1 := Lib.hid (blk_below K1.out hb)
  replace B1 := Lib.hid (below_step B1.out hb)
  clear hb hret HFX HPX
  have HFY := Lib.hid (implFind_any l A c y B3 d3 B4 d4 w4 (HR.out _ B1.out) hc (HY.out.below B1.out) HS.out ty)
  obtain ⟨p0, p1, p2, p3, p4⟩ := fm_cells K1.out
  go_wp2_with fail
  clear p0 p1 p2 p3 p4
  refine HFY.out.mono ?_
  intro e w5 hret
  obtain ⟨rfl, hb⟩ := Ret2.b HPY.out hret
  replace K0 := Lib.hid (blk_below K0.out hb)
  replace K1 := Lib.hid (blk_below K1.out hb)
  replace B1 := Lib.hid (below_step B1.out hb)
  clear hb hret HFY HPY
  obtain ⟨p0, p1, p2, p3, p4⟩ := fm_cells K0.out
  obtain ⟨q0, q1, q2, q3, q4⟩ := fm_cells K1.out
  generalize ha : (p == 1) = a1 at *
  generalize hb : (q == 1) = a2 at *
  generalize hc2 : (u == v) = a3 at *
  generalize hd : (p == 0) = a4 at *
  generalize he : (q == 0) = a5 at *
  generalize hg : (x.f1.toList == y.f1.toList) = a6 at *
  have HAll := Lib.hid (And.intro ha (And.intro hb (And.intro hc2 (And.intro hd (And.intro he hg)))))
  have hval : r = ((a1 && a2 && a3) || (a4 && a5 && a6)) := by
    rw [HE.out]
    unfold refB
    simp only [ha, hb, hc2, hd, he]
    rw [← hg]
    congr 2
    rw [Bool.eq_iff_iff]
    simp
  have HVAL := Lib.hid hval
  clear hval HE
  cases a1 <;> cases a2 <;> cases a3 <;> cases a4 <;> cases a5 <;> cases a6 <;> (go_wp2_with fail; go_ret; exact ⟨ret_b HVAL.out.symm, B1.out⟩)
end Go.Proofs.Ytcbomlmlindjdaa
end
section
namespace Go.Proofs.Ytcbomlmlindjdaa
open Go.RowKit Go.Proofs.YtcbomlmlindjdaaW.PrintWords Go.Proofs.YtcbomlmlindjdaaW.PrintLast Go.Proofs.YtcbomlmlindjdaaW.PrintMore
set_option linter.unusedVariables false
set_option linter.unusedSimpArgs false
def BdL (w : World) : List Bd → List Value → List Nat → Prop
  | [], inner, fp => inner = [] ∧ fp = []
  | b :: l, inner, fp => ∃ v1 rest fs, inner = [.string b.f0, v1, .int .i64 b.f2] ++ rest ∧ fp = obs v1 ++ fs ∧ w.ownsRow 0 3 1 v1 b.f1.length (encI b.f1) ∧ BdL w l rest fs
theorem BdL.len {w : World} : ∀ {l : List Bd} {inner : List Value} {fp : List Nat}, BdL w l inner fp → inner.length = l.length * 3
  | [], inner, fp, h => by rw [h.1]; rfl
  | b :: l, inner, fp, h => by
    obtain ⟨v1, rest, fs, rfl, rfl, _, hs⟩ := h
    have := BdL.len hs
    simp [this]; omega
theorem BdL.append {w : World} : ∀ {a b : List Bd} {ia ib : List Value} {fa fb : List Nat}, BdL w a ia fa → BdL w b ib fb → BdL w (a ++ b) (ia ++ ib) (fa ++ fb)
  | [], b, ia, ib, fa, fb, ha, hb => by obtain ⟨rfl, rfl⟩ := ha; exact hb
  | x :: a, b, ia, ib, fa, fb, ha, hb => by
    obtain ⟨v1, rest, fs, rfl, rfl, h1, hs⟩ := ha
    exact ⟨v1, rest ++ ib, fs ++ fb, by rw [List.append_assoc], by rw [List.append_assoc], h1, BdL.append hs hb⟩
theorem BdL.one {w : World} {b : Bd} {v1 : Value} (h : w.ownsRow 0 3 1 v1 b.f1.length (encI b.f1)) : BdL w [b] [.string b.f0, v1, .int .i64 b.f2] (obs v1) :=
  ⟨v1, [], [], rfl, by simp, h, rfl, rfl⟩
theorem BdL.move {w w1 : World} : ∀ {l : List Bd} {inner : List Value} {fp : List Nat}, BdL w l inner fp → (∀ b, b ∈ fp → w1.heap[b]? = w.heap[b]?) → BdL w1 l inner fp
  | [], inner, fp, h, _ => h
  | b :: l, inner, fp, h, hm => by
    obtain ⟨v1, rest, fs, rfl, rfl, h1, hs⟩ := h
    exact ⟨v1, rest, fs, rfl, rfl, own_move h1 (fun k hk => hm k (List.mem_append_left _ (obs_mem.2 hk))), BdL.move hs (fun k hk => hm k (List.mem_append_right _ hk))⟩
theorem BdL.lt {w : World} : ∀ {l : List Bd} {inner : List Value} {fp : List Nat}, BdL w l inner fp → ∀ b, b ∈ fp → b < w.heap.size
  | [], inner, fp, h, b, hb => by rw [h.2] at hb; cases hb
  | x :: l, inner, fp, h, b, hb => by
    obtain ⟨v1, rest, fs, rfl, rfl, h1, hs⟩ := h
    rcases List.mem_append.1 hb with q | q
    · exact own_lt h1 b (obs_mem.1 q)
    · exact BdL.lt hs b q
theorem BdL.later {w w1 : World} {l : List Bd} {inner : List Value} {fp : List Nat} (h : BdL w l inner fp) (hb : Below w.heap.size w w1) : BdL w1 l inner fp := h.move (fun b hb2 => hb.block b (h.lt b hb2))
abbrev set3 (w : World) (g o : Nat) (b0 b1 b2 : Value) : World := ((w.setCell ⟨g, o, none⟩ b0).setCell ⟨g, o + 1, none⟩ b1).setCell ⟨g, o + 2, none⟩ b2
theorem row_put3 {w : World} {e g n cap i : Nat} {inner rest : List Value} {a0 a1 a2 : Value} (h : w.ownsRow 0 e 3 (.slice (some ⟨g, 0, none⟩) n cap) n (inner ++ ([a0, a1, a2] ++ rest))) (hl : inner.length = i * 3) :
    (w.cell? ⟨g, i * 3, none⟩ = some a0 ∧ w.cell? ⟨g, i * 3 + 1, none⟩ = some a1 ∧ w.cell? ⟨g, i * 3 + 2, none⟩ = some a2) ∧
    (∀ j, w.frozen? ⟨g, j, none⟩ = false) ∧
    ∀ b0 b1 b2, (set3 w g (i * 3) b0 b1 b2).ownsRow 0 e 3 (.slice (some ⟨g, 0, none⟩) n cap) n (inner ++ ([b0, b1, b2] ++ rest)) := by
  have hn : inner.length + 3 + rest.length = n * 3 := by have := h.1; simp at this; omega
  have hc : ∀ j, j < 3 → w.cell? ⟨g, i * 3 + j, none⟩ = ([a0, a1, a2] ++ rest)[j]? := by
    intro j hj
    rw [World.ownsRow.cellAt h _ (by omega), List.getElem?_append_right (by omega)]
    congr 1
    omega
  refine ⟨⟨hc 0 (by omega), hc 1 (by omega), hc 2 (by omega)⟩, fun j => World.ownsRow.frozenAt h j, fun b0 b1 b2 => ?_⟩
  have s0 := (World.ownsRow.stored h (i * 3) b0).1
  have s1 := (World.ownsRow.stored s0 (i * 3 + 1) b1).1
  have s2 := (World.ownsRow.stored s1 (i * 3 + 2) b2).1
  have e : ((((inner ++ ([a0, a1, a2] ++ rest)).set (i * 3) b0).set (i * 3 + 1) b1).set (i * 3 + 2) b2) = inner ++ ([b0, b1, b2] ++ rest) := by
    rw [← hl]
    simp [List.set_append]
  rw [e] at s2
  exact s2
/-- The list at place i: its row, and how it is put together again. -/
theorem BdL.at_ {w : World} : ∀ {m : List Bd} {inner : List Value} {fp : List Nat}, BdL w m inner fp → ∀ (i : Nat) (h : i < m.length), ∃ ia v1 ib fa fb, inner = ia ++ ([.string m[i].f0, v1, .int .i64 m[i].f2] ++ ib) ∧ fp = fa ++ (obs v1 ++ fb) ∧ ia.length = i * 3 ∧ w.ownsRow 0 3 1 v1 m[i].f1.length (encI m[i].f1) ∧
    ∀ (w1 : World) (b : Bd), (∀ k, k ∈ fa ++ fb → w1.heap[k]? = w.heap[k]?) → w1.ownsRow 0 3 1 v1 b.f1.length (encI b.f1) → BdL w1 (m.set i b) (ia ++ ([.string b.f0, v1, .int .i64 b.f2] ++ ib)) fp
  | [], inner, fp, h, i, hi => absurd hi (Nat.not_lt_zero _)
  | x :: m, inner, fp, h, 0, hi => by
    obtain ⟨v1, rest, fs, rfl, rfl, h1, hs⟩ := h
    refine ⟨[], v1, rest, [], fs, rfl, rfl, rfl, h1, fun w1 b hm hb => ?_⟩
    exact ⟨v1, rest, fs, rfl, rfl, hb, hs.move (fun k hk => hm k (by simpa using hk))⟩
  | x :: m, inner, fp, h, i + 1, hi => by
    obtain ⟨v1, rest, fs, rfl, rfl, h1, hs⟩ := h
    obtain ⟨ia, v2, ib, fa, fb, rfl, rfl, hl, h2, hput⟩ := BdL.at_ hs i (by simpa using hi)
    refine ⟨[.string x.f0, v1, .int .i64 x.f2] ++ ia, v2, ib, obs v1 ++ fa, fb, by simp, by simp, by simp [hl]; omega, by simpa using h2, fun w1 b hm hb => ?_⟩
    refine ⟨v1, ia ++ ([.string b.f0, v2, .int .i64 b.f2] ++ ib), fa ++ (obs v2 ++ fb), by simp, by simp, own_move h1 (fun k hk => hm k (by simp [obs_mem, hk])), ?_⟩
    exact hput w1 b (fun k hk => hm k (by rcases List.mem_append.1 hk with q | q <;> simp [q])) hb
theorem row_at3 {w : World} {e g n cap i : Nat} {inner rest : List Value} {a0 a1 a2 : Value} (h : w.ownsRow 0 e 3 (.slice (some ⟨g, 0, none⟩) n cap) n (inner ++ ([a0, a1, a2] ++ rest))) (hl : inner.length = i * 3) :
    (∀ b, (w.setCell ⟨g, i * 3, none⟩ b).ownsRow 0 e 3 (.slice (some ⟨g, 0, none⟩) n cap) n (inner ++ ([b, a1, a2] ++ rest))) ∧ (∀ b, (w.setCell ⟨g, i * 3 + 2, none⟩ b).ownsRow 0 e 3 (.slice (some ⟨g, 0, none⟩) n cap) n (inner ++ ([a0, a1, b] ++ rest))) := by
  refine ⟨fun b => ?_, fun b => ?_⟩
  · have s0 := (World.ownsRow.stored h (i * 3) b).1
    have e : (inner ++ ([a0, a1, a2] ++ rest)).set (i * 3) b = inner ++ ([b, a1, a2] ++ rest) := by rw [← hl]; simp [List.set_append]
    rwa [e] at s0
  · have s0 := (World.ownsRow.stored h (i * 3 + 2) b).1
    have e : (inner ++ ([a0, a1, a2] ++ rest)).set (i * 3 + 2) b = inner ++ ([a0, a1, b] ++ rest) := by rw [← hl]; simp [List.set_append]
    rwa [e] at s0
theorem BdL.at2 {w : World} : ∀ {m : List Bd} {inner : List Value} {fp : List Nat}, BdL w m inner fp → ∀ (i : Nat) (h : i < m.length), ∃ ia v1 ib fa fb, inner = ia ++ ([.string m[i].f0, v1, .int .i64 m[i].f2] ++ ib) ∧ fp = fa ++ (obs v1 ++ fb) ∧ ia.length = i * 3 ∧ w.ownsRow 0 3 1 v1 m[i].f1.length (encI m[i].f1) ∧
    ∀ (w1 : World) (b : Bd) (u : Value), (∀ k, k ∈ fa ++ fb → w1.heap[k]? = w.heap[k]?) → w1.ownsRow 0 3 1 u b.f1.length (encI b.f1) → BdL w1 (m.set i b) (ia ++ ([.string b.f0, u, .int .i64 b.f2] ++ ib)) (fa ++ (obs u ++ fb))
  | [], inner, fp, h, i, hi => absurd hi (Nat.not_lt_zero _)
  | x :: m, inner, fp, h, 0, hi => by
    obtain ⟨v1, rest, fs, rfl, rfl, h1, hs⟩ := h
    refine ⟨[], v1, rest, [], fs, rfl, rfl, rfl, h1, fun w1 b u hm hb => ?_⟩
    exact ⟨u, rest, fs, rfl, rfl, hb, hs.move (fun k hk => hm k (by simpa using hk))⟩
  | x :: m, inner, fp, h, i + 1, hi => by
    obtain ⟨v1, rest, fs, rfl, rfl, h1, hs⟩ := h
    obtain ⟨ia, v2, ib, fa, fb, rfl, rfl, hl, h2, hput⟩ := BdL.at2 hs i (by simpa using hi)
    refine ⟨[.string x.f0, v1, .int .i64 x.f2] ++ ia, v2, ib, obs v1 ++ fa, fb, by simp, by simp, by simp [hl]; omega, by simpa using h2, fun w1 b u hm hb => ?_⟩
    refine ⟨v1, ia ++ ([.string b.f0, u, .int .i64 b.f2] ++ ib), fa ++ (obs u ++ fb), by simp, by simp, own_move h1 (fun k hk => hm k (by simp [obs_mem, hk])), ?_⟩
    exact hput w1 b u (fun k hk => hm k (by rcases List.mem_append.1 hk with q | q <;> simp [q])) hb
theorem row_at3m {w : World} {e g n cap i : Nat} {inner rest : List Value} {a0 a1 a2 : Value} (h : w.ownsRow 0 e 3 (.slice (some ⟨g, 0, none⟩) n cap) n (inner ++ ([a0, a1, a2] ++ rest))) (hl : inner.length = i * 3) :
    ∀ b, (w.setCell ⟨g, i * 3 + 1, none⟩ b).ownsRow 0 e 3 (.slice (some ⟨g, 0, none⟩) n cap) n (inner ++ ([a0, b, a2] ++ rest)) := by
  intro b
  have s0 := (World.ownsRow.stored h (i * 3 + 1) b).1
  have e : (inner ++ ([a0, a1, a2] ++ rest)).set (i * 3 + 1) b = inner ++ ([a0, b, a2] ++ rest) := by rw [← hl]; simp [List.set_append]
  rwa [e] at s0
/-- A list of bindings in new memory, from block B on. -/
def NewB (B : Nat) (w' : World) (l : List Bd) (v : Value) : Prop := ∃ inner fp, w'.ownsRow 0 36 3 v l.length inner ∧ BdL w' l inner fp ∧ (obs v ++ fp).Nodup ∧ ∀ b, b ∈ obs v ++ fp → B ≤ b
theorem NewB.lt {B : Nat} {w : World} {l : List Bd} {v : Value} {inner : List Value} {fp : List Nat} (ho : w.ownsRow 0 36 3 v l.length inner) (ht : BdL w l inner fp) : ∀ b, b ∈ obs v ++ fp → b < w.heap.size := fun b hb => by
  rcases List.mem_append.1 hb with q | q
  · exact own_lt ho b (obs_mem.1 q)
  · exact ht.lt b q
theorem NewB.move {B : Nat} {w W : World} {l : List Bd} {v : Value} (h : NewB B w l v) (hm : ∀ b, B ≤ b → b < w.heap.size → W.heap[b]? = w.heap[b]?) : NewB B W l v := by
  obtain ⟨inner, fp, ho, ht, hn, hg⟩ := h
  have hlt := NewB.lt (B := B) ho ht
  exact ⟨inner, fp, own_move ho (fun k hk => hm k (hg k (List.mem_append_left _ (obs_mem.2 hk))) (hlt k (List.mem_append_left _ (obs_mem.2 hk)))), ht.move (fun k hk => hm k (hg k (List.mem_append_right _ hk)) (hlt k (List.mem_append_right _ hk))), hn, hg⟩
/-- The list's binding i: its cells; what the stores into it leave. -/
structure BdAtI (B : Nat) (w : World) (l : List Bd) (v : Value) (i : Nat) (x : Bd) (gr : Nat) (C : Option Addr) (d : Nat) : Prop where
  ge : B ≤ gr
  lt : gr < w.heap.size
  c0 : w.cell? ⟨gr, i * 3, none⟩ = some (.string x.f0)
  c1 : w.cell? ⟨gr, i * 3 + 1, none⟩ = some (.slice C x.f1.length d)
  c2 : w.cell? ⟨gr, i * 3 + 2, none⟩ = some (.int .i64 x.f2)
  fz : ∀ j, w.frozen? ⟨gr, j, none⟩ = false
  row : w.ownsRow B 3 1 (.slice C x.f1.length d) x.f1.length (encI x.f1)
  ne : ∀ b, (Value.slice C x.f1.length d).ownBlock = some b → b ≠ gr
  id_ : ∀ n, NewB B (w.setCell ⟨gr, i * 3 + 2, none⟩ (.int .i64 n)) (l.set i ⟨x.f0, x.f1, n⟩) v
  sc_ : ∀ (w1 : World) (u : Value) (sc : List Int), w.grownBy w1 (Value.slice C x.f1.length d).ownBlock → w1.ownsRow 0 3 1 u sc.length (encI sc) → (u.ownBlock = (Value.slice C x.f1.length d).ownBlock ∨ ∃ b, u.ownBlock = some b ∧ w.heap.size ≤ b) → w1.cell? ⟨gr, i * 3 + 1, none⟩ = some (.slice C x.f1.length d) ∧ w1.frozen? ⟨gr, i * 3 + 1, none⟩ = false ∧ NewB B (w1.setCell ⟨gr, i * 3 + 1, none⟩ u) (l.set i ⟨x.f0, sc, x.f2⟩) v
theorem NewB.atI {B : Nat} {w : World} {l : List Bd} {v : Value} (h : NewB B w l v) (hB : B ≤ w.heap.size) (i : Nat) (hi : i < l.length) : ∃ gr cap C d, v = .slice (some ⟨gr, 0, none⟩) l.length cap ∧ BdAtI B w l v i l[i] gr C d := by
  obtain ⟨inner, fp, ho, ht, hn, hge⟩ := h
  have hlt := NewB.lt (B := B) ho ht
  obtain ⟨gr, cap, rfl, hg0, hg1⟩ := ho.form (by omega)
  obtain ⟨ia, v1, ib, fa, fb, rfl, rfl, hil, h1, hput⟩ := ht.at2 i hi
  obtain ⟨C, d, rfl, hcap, _⟩ := own_C h1
  generalize l[i] = x at h1 ho hput hcap hge hn hlt
  obtain ⟨⟨z0, z1, z2⟩, hfz, _⟩ := row_put3 ho hil
  have hgm : gr ∈ obs (Value.slice (some ⟨gr, 0, none⟩) l.length cap) := by simp [obs, Value.ownBlock]
  obtain ⟨_, nf, nd⟩ := List.nodup_append.1 hn
  obtain ⟨na, nvb, nd2⟩ := List.nodup_append.1 nf
  obtain ⟨_, nb, nd3⟩ := List.nodup_append.1 nvb
  have hgv : ∀ b, b ∈ obs (Value.slice C x.f1.length d) → b ≠ gr := fun b hb he => nd gr hgm b (by simp [hb]) he.symm
  have hga : ∀ b, b ∈ fa ++ fb → b ≠ gr := fun b hb he => nd gr hgm b (by rcases List.mem_append.1 hb with q | q <;> simp [q]) he.symm
  have hva : ∀ b, b ∈ fa ++ fb → b ∉ obs (Value.slice C x.f1.length d) := fun b hb hv => by
    rcases List.mem_append.1 hb with q | q
    · exact nd2 b q b (List.mem_append_left _ hv) rfl
    · exact nd3 b hv b q rfl
  have hgo : ∀ b, (Value.slice (some ⟨gr, 0, none⟩) l.length cap).ownBlock = some b → b = gr := fun b hb => by
    have : gr = b := by simpa [Value.ownBlock] using hb
    exact this.symm
  refine ⟨gr, cap, C, d, rfl, hge gr (List.mem_append_left _ hgm), hg1, z0, z1, z2, hfz, ?_, fun b hb => hgv b (obs_mem.2 hb), fun n => ?_, fun w1 u sc hg hu hat => ?_⟩
  · refine ⟨h1.1, ?_⟩
    rcases h1.2 with q | ⟨g5, cap5, cur5, q, hq, r⟩
    · exact .inl q
    · exact .inr ⟨g5, cap5, cur5, q, hge g5 (by rw [q]; simp [obs, Value.ownBlock]), r⟩
  · have hfar : ∀ b, b ≠ gr → (w.setCell ⟨gr, i * 3 + 2, none⟩ (.int .i64 n)).heap[b]? = w.heap[b]? := fun b hb => Below.heap_setCell _ _ _ _ (by exact hb)
    exact ⟨_, _, by rw [List.length_set]; exact (row_at3 ho hil).2 (.int .i64 n), hput _ ⟨x.f0, x.f1, n⟩ _ (fun b hb => hfar b (hga b hb)) (own_move h1 (fun b hb => hfar b (hgv b (obs_mem.2 hb)))), hn, hge⟩
  · have hrow : ∀ b, b ∉ obs (Value.slice C x.f1.length d) → some b ≠ (Value.slice C x.f1.length d).ownBlock := fun b hb he => hb (obs_mem.2 he.symm)
    have ho1 := own_move (w1 := w1) ho (fun b hb => by rw [hgo b hb]; exact hg.block gr hg1 (hrow gr (fun q => hgv gr q rfl)))
    have huv : ∀ b, u.ownBlock = some b → b ∈ obs (Value.slice C x.f1.length d) ∨ w.heap.size ≤ b := fun b hb => by
      rcases hat with q | ⟨c, q, hc⟩
      · exact .inl (obs_mem.2 (q ▸ hb))
      · rw [q] at hb; cases hb; exact .inr hc
    have hug : ∀ b, b ∈ obs u → b ≠ gr := fun b hb he => by
      rcases huv b (obs_mem.1 hb) with q | q
      · exact hgv b q he
      · omega
    have hua : ∀ b, b ∈ fa ++ fb → b ∉ obs u := fun b hb hv => by
      have := hlt b (by rcases List.mem_append.1 hb with q | q <;> simp [q])
      rcases huv b (obs_mem.1 hv) with q | q
      · exact hva b hb q
      · omega
    have hfar : ∀ b, b ≠ gr → (w1.setCell ⟨gr, i * 3 + 1, none⟩ u).heap[b]? = w1.heap[b]? := fun b hb => Below.heap_setCell _ _ _ _ (by exact hb)
    obtain ⟨⟨_, q1, _⟩, qf, _⟩ := row_put3 ho1 hil
    refine ⟨q1, qf _, ?_⟩
    refine ⟨_, _, by rw [List.length_set]; exact row_at3m ho1 hil u, hput _ ⟨x.f0, sc, x.f2⟩ u (fun b hb => (hfar b (hga b hb)).trans (hg.block b (hlt b (by rcases List.mem_append.1 hb with q | q <;> simp [q])) (hrow b (hva b hb)))) (own_move hu (fun b hb => hfar b (hug b (obs_mem.2 hb)))), ?_, ?_⟩
    · rw [List.nodup_append]
      refine ⟨by simp [obs, Value.ownBlock], ?_, fun a ha b hb he => ?_⟩
      · rw [List.nodup_append]
        refine ⟨na, ?_, fun a ha b hb he => ?_⟩
        · rw [List.nodup_append]
          refine ⟨by unfold obs; cases u.ownBlock <;> simp, nb, fun a ha b hb he => ?_⟩
          subst he; exact hua a (List.mem_append_right _ hb) ha
        · subst he
          rcases List.mem_append.1 hb with q | q
          · exact hua a (List.mem_append_left _ ha) q
          · exact nd2 a ha a (List.mem_append_right _ q) rfl
      · subst he
        have hag := hgo a (obs_mem.1 ha)
        rcases List.mem_append.1 hb with q | q
        · exact hga a (List.mem_append_left _ q) hag
        · rcases List.mem_append.1 q with q | q
          · exact hug a q hag
          · exact hga a (List.mem_append_right _ q) hag
    · intro b hb
      rcases List.mem_append.1 hb with q | q
      · exact hge b (List.mem_append_left _ q)
      · rcases List.mem_append.1 q with q | q
        · exact hge b (by simp [q])
        · rcases List.mem_append.1 q with q | q
          · rcases huv b (obs_mem.1 q) with r | r
            · exact hge b (by simp [r])
            · omega
          · exact hge b (by simp [q])
/-- The same, where the cells are known. -/
theorem NewB.atC {B : Nat} {w : World} {l : List Bd} {gr n cap : Nat} (h : NewB B w l (.slice (some ⟨gr, 0, none⟩) n cap)) (hB : B ≤ w.heap.size) (i : Nat) (hi : i < l.length) {x : Bd} (hx : l[i] = x) {C : Option Addr} {d : Nat} (hc : w.cell? ⟨gr, i * 3 + 1, none⟩ = some (.slice C x.f1.length d)) : BdAtI B w l (.slice (some ⟨gr, 0, none⟩) n cap) i x gr C d := by
  obtain ⟨gr', cap', C', d', e, hat⟩ := h.atI hB i hi
  injection e with a1 a2 a3
  injection a1 with a1
  injection a1 with a1
  subst a1 a2 a3 hx
  have h1 := hat.c1.symm.trans hc
  injection h1 with h1
  injection h1 with b1 b2 b3
  subst b1 b3
  exact hat
end Go.Proofs.Ytcbomlmlindjdaa
end
