/- Words for the laws' proofs (part 5): contracts of functions, and plain lemmas. -/
import Derived.Deep.RegionHeld3
import Derived.Laws.BitsLemmas
import Derived.Test.YtcbomlmlindjdaaKb1
import Derived.Test.YtcbomlmlindjdaaKb2
import Derived.Test.YtcbomlmlindjdaaKb3
import Derived.Test.YtcbomlmlindjdaaKb4
section
namespace Go.Proofs.Ytcbomlmlindjdaa.Q
open Go.RowKit Go.Proofs.YtcbomlmlindjdaaW.PrintWords Go.Proofs.YtcbomlmlindjdaaW.PrintLast Go.Proofs.YtcbomlmlindjdaaW.PrintMore
attribute [local go_sem] max2_int min2_int max_two min_two max_three min_three max_four min_four   -- for this text's walks alone
set_option linter.unusedVariables false
set_option linter.unusedSimpArgs false

noncomputable def impl_copyBinds.l0 : Nat → List (S36) → List (S36) → Int → Int → Option ((List (S36)))
  | 0, _, _, _, _ => none
  | k + 1, x3, x7, x8, x9 => if x9 < x8 then (if 0 ≤ x9 then (if x9 < (x7.length : Int) then ((slices_Clone_int_int.f ((rd_T36 x7 x9).f1)).bind fun t267 => (if x3.length < 2932031007402 then (impl_copyBinds.l0 k (x3 ++ [(⟨(rd_T36 x7 x9).f0, t267, (rd_T36 x7 x9).f2⟩ : S36)]) x7 x8 (wrap64 (x9 + 1))) else (none))) else (none)) else (none)) else (some x3)
noncomputable def impl_copyBinds.f (k : Nat) (l0 : List (S36)) : Option ((List (S36))) := impl_copyBinds.l0 k (([] : List (S36))) l0 (l0.length : Int) 0
theorem impl_copyBinds.mono_l : ∀ k, (∀ y0 y1 y2 y3, LeO (impl_copyBinds.l0 k y0 y1 y2 y3) (impl_copyBinds.l0 (k + 1) y0 y1 y2 y3))
  | 0 => fun _ _ _ _ r h => by simp [impl_copyBinds.l0] at h
  | k + 1 => by
    have ih0 := impl_copyBinds.mono_l k
    · intro y0 y1 y2 y3
      unfold impl_copyBinds.l0
      repeat' first
      | (with_reducible exact ih0 _ _ _ _)
      | (with_reducible exact LeO.refl _)
      | (with_reducible exact LeO.none _)
      | (with_reducible refine LeO.ite ?_ ?_)
      | (with_reducible refine LeO.bind ?_ (fun _ => ?_))
      | exact ih0 _ _ _ _
      | exact LeO.none _
      | refine LeO.ite ?_ ?_
      | refine LeO.bind ?_ (fun _ => ?_)
theorem impl_copyBinds.mono : ∀ a0 k, LeO (impl_copyBinds.f k a0) (impl_copyBinds.f (k + 1) a0) := by
  intro a0 k
  have ih0 := impl_copyBinds.mono_l k
  unfold impl_copyBinds.f
  repeat' first
      | (with_reducible exact ih0 _ _ _ _)
      | (with_reducible exact LeO.refl _)
      | (with_reducible exact LeO.none _)
      | (with_reducible refine LeO.ite ?_ ?_)
      | (with_reducible refine LeO.bind ?_ (fun _ => ?_))
      | exact ih0 _ _ _ _
      | exact LeO.none _
      | refine LeO.ite ?_ ?_
      | refine LeO.bind ?_ (fun _ => ?_)
set_option maxHeartbeats 8000000 in
set_option maxRecDepth 100000 in
theorem impl_copyBinds.calls (k : Nat) (A0 : Option Addr) (c0 : Nat) (l0 : List (S36)) (r : List (S36)) (w : World) (hr0 : Kd.C k36 w A0 l0.length l0) (hc0 : l0.length ≤ c0) (h : impl_copyBinds.f k l0 = some r) :
    Calls Try.prog 57 #[.slice A0 l0.length c0] w fun e w' => ∃ v0_ : Value, e = .returned (v0_) ∧ Kd.S k36 36 w' w.heap.size (fun _ => True) v0_ r ∧ Below w.heap.size w w' := by
  have hu36 := Try.underlying36
  have HR0 := Aside0.mk hr0
  have HC0 := Aside0.mk hc0
  clear hr0 hc0
  have HB := Aside0.mk (Below.refl w.heap.size w)
  have H : (impl_copyBinds.l0 k (([] : List (S36))) l0 (l0.length : Int) 0) = some r := h
  clear h
  obtain ⟨y262, hy262⟩ : ∃ y_ : List (S36), y_ = (([] : List (S36))) := ⟨_, rfl⟩
  replace H : (impl_copyBinds.l0 k y262 l0 (l0.length : Int) 0) = some r := by first | (rw [hy262]; with_reducible exact H) | (have H2_ := (Option.bind_some _ _).symm.trans H; rw [hy262]; with_reducible exact H2_) | (have H2_ := (Option.bind_some _ _).symm.trans H; with_reducible exact H2_) | with_reducible exact H | (rw [hy262]; exact H) | exact H
  have Ny262 := Aside0.mk hy262
  clear hy262
  have H' := Aside0.mk H
  clear H
  go_enter Try.func57, Try.ntmps57
  go_wp2_with (first | ((with_reducible refine gate_dst (N := 6) rfl ?_); refine Kd.S_lit k36 _ 36 ?hg (N := 6) ?hd (xs := ([] : List (S36))) (inner := []) (ok := fun _ => True) (okp := fun _ => True) ?hr ?hp (fun _ hk => hk) trivial (Below.refl _ _) (Nat.le_refl _) (by simp) ?_; (case hd => rfl); (case hg => rfl); (case hr => first | (go_simp; done) | (go_simp; rfl)); (case hp => exact (Reps.none _ _)); intro v263 w2 ho3 hb hg_ hnew_; clear hg_ hnew_; (first | rw [← Ny262.out] at ho3 | (simp only [Int.reduceToNat] at ho3; rw [← Ny262.out] at ho3)); have n0_ := Aside0.mk (Kd.S_lower ho3 (below_size (by repeat (first | (with_reducible first | exact HB.out | apply below_alloc | apply pw_below_drewN | apply below_drew1) | exact HB.out)))); have n1_ := Aside0.mk (below_step (by repeat (first | (with_reducible first | exact HB.out | apply below_alloc | apply pw_below_drewN | apply below_drew1) | exact HB.out)) hb); clear HB; have HO264 := n0_; have HB := n1_; clear n0_ n1_; clear hb ho3))
  go_loopg [3, 9] k (fun kq v3 v9 w' => ∃ (x3_1 : List (S36)) (x9_1 : Int), v9 = .int .i64 x9_1 ∧ Aside0 (impl_copyBinds.l0 kq x3_1 l0 (l0.length : Int) x9_1 = some r) ∧ Aside0 (kq ≤ k) ∧ Aside0 (Kd.S k36 36 w' w.heap.size (fun _ => True) v3 x3_1) ∧ Aside0 (Below w.heap.size w w'))
  case atStart => exact ⟨(y262), (0), (by first | rfl | (simp; done) | (simp [*]; done)), H', ⟨Nat.le_refl _⟩, ⟨by (with_reducible repeat (first | apply Kd.S_alloc | apply Kd.S_drewN | apply Kd.S_drew)); exact HO264.out⟩, ⟨by repeat (first | (with_reducible first | exact HB.out | apply below_alloc | apply pw_below_drewN | apply below_drew1) | exact HB.out)⟩⟩
  case round =>
    clear H'
    try clear p2
    obtain ⟨x3_1, x9_1, rfl, HA, HK1, HO_3, HB⟩ := hrel
    cases gk with
    | zero => exact absurd HA.out (by simp [impl_copyBinds.l0])
    | succ k1 =>
      have H := HA.out
      clear HA
      simp only [impl_copyBinds.l0] at H
      by_cases c4 : x9_1 < (l0.length : Int)
      · rw [if_pos c4] at H
        have c4b0 : decide (x9_1 < (l0.length : Int)) = true := decide_eq_true c4
        clear c4
        by_cases c5 : 0 ≤ x9_1
        · rw [if_pos c5] at H
          have c5b0 : decide (0 ≤ x9_1) = true := decide_eq_true c5
          clear c5
          by_cases c6 : x9_1 < (l0.length : Int)
          · rw [if_pos c6] at H
            have c6b0 : decide (x9_1 < (l0.length : Int)) = true := decide_eq_true c6
            clear c6
            replace H := Option.bind_eq_some_iff.mp H
            obtain ⟨t267, A70, H⟩ := H
            replace H : (if x3_1.length < 2932031007402 then (impl_copyBinds.l0 k1 (x3_1 ++ [(⟨(rd_T36 l0 x9_1).f0, t267, (rd_T36 l0 x9_1).f2⟩ : S36)]) l0 (l0.length : Int) (wrap64 (x9_1 + 1))) else (none)) = some r := H
            have A7 := Aside0.mk A70
            clear A70
            by_cases c8 : x3_1.length < 2932031007402
            · rw [if_pos c8] at H
              have LMc8 := Aside0.mk c8
              clear c8
              obtain ⟨y270, hy270⟩ : ∃ y_ : List (S36), y_ = (x3_1 ++ [(⟨(rd_T36 l0 x9_1).f0, t267, (rd_T36 l0 x9_1).f2⟩ : S36)]) := ⟨_, rfl⟩
              replace H : (impl_copyBinds.l0 k1 y270 l0 (l0.length : Int) (wrap64 (x9_1 + 1))) = some r := by first | (rw [hy270]; with_reducible exact H) | (have H2_ := (Option.bind_some _ _).symm.trans H; rw [hy270]; with_reducible exact H2_) | (have H2_ := (Option.bind_some _ _).symm.trans H; with_reducible exact H2_) | with_reducible exact H | (rw [hy270]; exact H) | exact H
              have Ny270 := Aside0.mk hy270
              clear hy270
              have H' := Aside0.mk H
              clear H
              have p265 : 0 ≤ (x9_1 : Int) := of_decide_eq_true (by first | (with_reducible assumption) | assumption)
              have q265 : x9_1 < (l0.length : Int) := of_decide_eq_true (by first | (with_reducible assumption) | assumption)
              obtain ⟨ad265, A265_1, c265_1, e265, hx265_0, hx265_1, hx265_2, hl265_1, hi265_1⟩ := at_T36 HR0.out x9_1 p265 q265
              cases e265
              replace hx265_0 := (HB.out.cell (World.block_lt_of_cell? w _ hx265_0)).trans hx265_0
              replace hx265_1 := (HB.out.cell (World.block_lt_of_cell? w _ hx265_1)).trans hx265_1
              replace hx265_2 := (HB.out.cell (World.block_lt_of_cell? w _ hx265_2)).trans hx265_2
              have HR265_1 := Aside0.mk hi265_1
              have HC265_1 := Aside0.mk hl265_1
              clear hi265_1 hl265_1
              replace p265 := eq_true p265
              replace q265 := eq_true q265
              go_wp2_with (first | ((with_reducible refine gate_dst (N := 5) rfl ?_); refine box_event ?hg (N := 5) ?hd (cs := #[.string (⟨#[]⟩ : ByteArray), .slice none 0 0, .int .i64 0]) (t := 36) ?hr ?_; (case hd => rfl); (case hg => rfl); (case hr => first | (go_simp; done) | (go_simp; rfl)); intro gb266 hg w9 hbox hb; have n0_ := Aside0.mk (Kd.S_below (Kd.S_elderB (by (with_reducible repeat (first | apply Kd.S_alloc | apply Kd.S_drewN | apply Kd.S_drew)); exact HO_3.out) gb266 (Nat.le_of_eq hg.symm)) hb); have n1_ := Aside0.mk (below_step (by repeat (first | (with_reducible first | exact HB.out | apply below_alloc | apply pw_below_drewN | apply below_drew1) | exact HB.out)) hb); have n2_ := Aside0.mk (hbox); have n3_ := Aside0.mk ((by rw [hg]; exact (below_size (by repeat (first | (with_reducible first | exact HB.out | apply below_alloc | apply pw_below_drewN | apply below_drew1) | exact HB.out))) : w.heap.size ≤ gb266)); have n4_ := Aside0.mk ((by rw [hg]; exact (below_size (by repeat (first | (with_reducible first | exact HB.out | apply below_alloc | apply pw_below_drewN | apply below_drew1) | exact HB.out))) : w.heap.size ≤ gb266)); clear HO_3; clear HB; have HO_3 := n0_; have HB := n1_; have BK266 := n2_; have GW266 := n3_; have GE266 := n4_; clear n0_ n1_ n2_ n3_ n4_; clear hb hbox hg; have hcz10_0 : w9.cell? ⟨gb266, 0, none⟩ = some (.string (⟨#[]⟩ : ByteArray)) := (blk_cell BK266.out 0).trans rfl; have hcz10_1 : w9.cell? ⟨gb266, 1, none⟩ = some (.slice none 0 0) := (blk_cell BK266.out 1).trans rfl; have hcz10_2 : w9.cell? ⟨gb266, 2, none⟩ = some (.int .i64 0) := (blk_cell BK266.out 2).trans rfl; have hfz10_0 := blk_frozen BK266.out 0; have hfz10_1 := blk_frozen BK266.out 1; have hfz10_2 := blk_frozen BK266.out 2) | ((with_reducible refine gate_callee (f := 58) rfl ?_); refine goesL_ (some 15) rfl rfl Try.func58 (by kernel_rfl) rfl #[.slice A265_1 ((rd_T36 l0 x9_1).f1).length c265_1] rfl (by (try simp only [List.map_toArray, List.map_cons, List.map_nil]); first | done | rfl | (simp only [List.length_drop, List.length_take]; rfl)) ?_; (with_reducible refine (slices_Clone_int_int.calls _ _ ((rd_T36 l0 x9_1).f1) t267 _ ?side1 ?side2 A7.out).mono ?_); (case side1 => exact Kd.C_below HR265_1.out (by repeat (first | (with_reducible first | exact HB.out | apply below_alloc | apply pw_below_drewN | apply below_drew1 | refine below_set ?_ GE266.out) | exact HB.out))); (case side2 => exact HC265_1.out); rintro e w11 ⟨v268, rfl, ho0, hb⟩; refine ⟨_, rfl, ?_⟩; have n0_ := Aside0.mk (Kd.S_elder' (by (with_reducible repeat (first | apply Kd.S_alloc | apply Kd.S_drewN | apply Kd.S_drew)); exact (Kd.S_mono (Kd.S_far (p := ⟨gb266, 2, none⟩) (Kd.S_far (p := ⟨gb266, 1, none⟩) (Kd.S_far (p := ⟨gb266, 0, none⟩) (Kd.S_mono HO_3.out (fun k_ hk => (⟨hk, hk.2⟩ : _ ∧ k_ ≠ gb266))) (fun _ hk => hk.2) (.string ((rd_T36 l0 x9_1).f0))) (fun _ hk => hk.2) (.slice A265_1 ((rd_T36 l0 x9_1).f1).length c265_1)) (fun _ hk => hk.2) (.int .i64 ((rd_T36 l0 x9_1).f2))) (fun _ h_ => h_.1))) (Kd.R_base ho0) hb); have n1_ := Aside0.mk (Kd.R_lower ho0 (below_size (by repeat (first | (with_reducible first | exact HB.out | apply below_alloc | apply pw_below_drewN | apply below_drew1 | refine below_set ?_ GE266.out) | exact HB.out)))); have n2_ := Aside0.mk (blk_below (g := gb266) (o := .cells #[.string ((rd_T36 l0 x9_1).f0), .slice A265_1 ((rd_T36 l0 x9_1).f1).length c265_1, .int .i64 ((rd_T36 l0 x9_1).f2)] 36 (0, 0)) (by (with_reducible repeat (first | refine blk_drewN ?_ _ | refine blk_drew ?_ | refine blk_alloc ?_ _)); refine blk_put (cs := #[.string ((rd_T36 l0 x9_1).f0), .slice A265_1 ((rd_T36 l0 x9_1).f1).length c265_1, .int .i64 0]) ?_ 2 _ rfl; (with_reducible repeat (first | refine blk_drewN ?_ _ | refine blk_drew ?_ | refine blk_alloc ?_ _)); refine blk_put (cs := #[.string ((rd_T36 l0 x9_1).f0), .slice none 0 0, .int .i64 0]) ?_ 1 _ rfl; (with_reducible repeat (first | refine blk_drewN ?_ _ | refine blk_drew ?_ | refine blk_alloc ?_ _)); refine blk_put (cs := #[.string (⟨#[]⟩ : ByteArray), .slice none 0 0, .int .i64 0]) ?_ 0 _ rfl; (with_reducible repeat (first | refine blk_drewN ?_ _ | refine blk_drew ?_ | refine blk_alloc ?_ _)); exact BK266.out) hb); have n3_ := Aside0.mk (below_step (by repeat (first | (with_reducible first | exact HB.out | apply below_alloc | apply pw_below_drewN | apply below_drew1 | refine below_set ?_ GE266.out) | exact HB.out)) hb); clear HO_3; clear BK266; clear HB; have HO_3 := n0_; have HO269 := n1_; have BK266 := n2_; have HB := n3_; clear n0_ n1_ n2_ n3_; (try clear hb); (try clear hb2); (try clear hk); (try clear hi); (try clear ho0); obtain ⟨Ao12, co12, eo12⟩ := Kd.R_slice HO269.out; subst eo12; have hcz13_0 : w11.cell? ⟨gb266, 0, none⟩ = some (.string ((rd_T36 l0 x9_1).f0)) := (blk_cell BK266.out 0).trans rfl; have hcz13_1 : w11.cell? ⟨gb266, 1, none⟩ = some (.slice A265_1 ((rd_T36 l0 x9_1).f1).length c265_1) := (blk_cell BK266.out 1).trans rfl; have hcz13_2 : w11.cell? ⟨gb266, 2, none⟩ = some (.int .i64 ((rd_T36 l0 x9_1).f2)) := (blk_cell BK266.out 2).trans rfl; have hfz13_0 := blk_frozen BK266.out 0; have hfz13_1 := blk_frozen BK266.out 1; have hfz13_2 := blk_frozen BK266.out 2) | ((with_reducible refine gate_store (t := 27) (p := 16) rfl ?_); refine store_event (t := 27) (p := 16) (v := ?vo_w14) (w1 := (w11.setCell ⟨gb266, 1, none⟩ (.slice Ao12 t267.length co12))) ?hg ?ho ?hn ?hr ?_; (case ho => rfl); (case hg => rfl); (case hn => rfl); (case hr => first | (go_simp; done) | (go_simp; rfl)); intro w14 hw; have n0_ : Aside0 (Kd.S k36 36 w14 w.heap.size (fun k_ => some k_ ≠ (.slice Ao12 t267.length co12 : Value).ownBlock ∧ k_ ≠ gb266) u3 x3_1) := ⟨(by rw [hw]; exact (by (with_reducible repeat (first | apply Kd.S_alloc | apply Kd.S_drewN | apply Kd.S_drew)); exact Kd.S_mono (Kd.S_far (p := ⟨gb266, 1, none⟩) (Kd.S_mono HO_3.out (fun k_ hk => (⟨hk, hk.1.2⟩ : _ ∧ k_ ≠ gb266))) (fun _ hk => hk.2) (.slice Ao12 t267.length co12)) (fun _ hk => ⟨hk.1.2, hk.1.1.2⟩)))⟩; have n1_ : Aside0 (Kd.R (Kd.int .i64) 3 w14 w.heap.size (fun _ => True) (.slice Ao12 t267.length co12) t267) := ⟨(by rw [hw]; exact (by (with_reducible repeat (first | apply Kd.R_alloc | apply Kd.R_drewN | apply Kd.R_drew)); exact Kd.R_mono (Kd.R_far (p := ⟨gb266, 1, none⟩) (Kd.R_types HO269.out BK266.out (by decide)) (fun _ hk => hk.2) (.slice Ao12 t267.length co12)) (fun _ hk => trivial)))⟩; have n2_ : Aside0 (w14.heap[gb266]? = some (.cells #[.string ((rd_T36 l0 x9_1).f0), .slice Ao12 t267.length co12, .int .i64 ((rd_T36 l0 x9_1).f2)] 36 (0, 0))) := ⟨(by rw [hw]; exact (by (with_reducible repeat (first | refine blk_drewN ?_ _ | refine blk_drew ?_ | refine blk_alloc ?_ _)); refine blk_put (cs := #[.string ((rd_T36 l0 x9_1).f0), .slice A265_1 ((rd_T36 l0 x9_1).f1).length c265_1, .int .i64 ((rd_T36 l0 x9_1).f2)]) ?_ 1 _ rfl; (with_reducible repeat (first | refine blk_drewN ?_ _ | refine blk_drew ?_ | refine blk_alloc ?_ _)); exact BK266.out))⟩; have n3_ : Aside0 (Below w.heap.size w w14) := ⟨(by rw [hw]; exact (by repeat (first | (with_reducible first | exact HB.out | apply below_alloc | apply pw_below_drewN | apply below_drew1 | refine below_set ?_ GE266.out) | exact HB.out)))⟩; clear hw; clear HO_3; clear HO269; clear BK266; clear HB; have HO_3 := n0_; have HO269 := n1_; have BK266 := n2_; have HB := n3_; clear n0_ n1_ n2_ n3_; have hcz15_0 : w14.cell? ⟨gb266, 0, none⟩ = some (.string ((rd_T36 l0 x9_1).f0)) := (blk_cell BK266.out 0).trans rfl; have hcz15_1 : w14.cell? ⟨gb266, 1, none⟩ = some (.slice Ao12 t267.length co12) := (blk_cell BK266.out 1).trans rfl; have hcz15_2 : w14.cell? ⟨gb266, 2, none⟩ = some (.int .i64 ((rd_T36 l0 x9_1).f2)) := (blk_cell BK266.out 2).trans rfl; have hfz15_0 := blk_frozen BK266.out 0; have hfz15_1 := blk_frozen BK266.out 1; have hfz15_2 := blk_frozen BK266.out 2) | ((with_reducible refine gate_builtin (b := .append) (xs := #[.tmp 17, .tmp 19]) rfl ?_); at_builtin; refine Kd.S_append k36 (w0 := w) w.heap.size rfl (.tmp 17) (.tmp 19) 23 36 (.agg #[(.string ⟨#[]⟩), (.slice none 0 0), (.int .i64 0)]) 48 rfl Try.underlying23 info36 rfl (by decide) (by omega) u3 x3_1 (⟨(rd_T36 l0 x9_1).f0, t267, (rd_T36 l0 x9_1).f2⟩ : S36) [.string ((rd_T36 l0 x9_1).f0), .slice Ao12 t267.length co12, .int .i64 ((rd_T36 l0 x9_1).f2)] (fun k_ => k_ ≠ gb266) (fun k_ => some k_ = (.slice Ao12 t267.length co12 : Value).ownBlock) rfl rfl ?aP (fun k_ hk_ => ((Kd.R_mono (ok' := fun k_ => ((fun k_ => k_ ≠ gb266)) k_ ∧ some k_ ≠ (u3 : Value).ownBlock) (Kd.R_types (Kd.R_apart' (HO269.out) (Kd.S_typed HO_3.out) (by decide)) BK266.out (by decide)) (fun k_ hk => ⟨hk.2, hk.1.2⟩))).1 k_ hk_.symm) ?aF ?aO ?aB ?aS ?aL ?_; (case aP => exact k36_mkM _ _ _ (⟨(rd_T36 l0 x9_1).f0, t267, (rd_T36 l0 x9_1).f2⟩ : S36) (Kd.R_mono (Kd.R_tight rfl (Kd.R_mono (ok' := fun k_ => ((fun k_ => k_ ≠ gb266)) k_ ∧ some k_ ≠ (u3 : Value).ownBlock) (Kd.R_types (Kd.R_apart' (HO269.out) (Kd.S_typed HO_3.out) (by decide)) BK266.out (by decide)) (fun k_ hk => ⟨hk.2, hk.1.2⟩))) (fun _ h_ => h_))); (case aB => exact (by repeat (first | (with_reducible first | exact HB.out | apply below_alloc | apply pw_below_drewN | apply below_drew1 | refine below_set ?_ GE266.out) | exact HB.out))); (case aF => exact (fun k_ hk => Kd.freshB (g := gb266) (o := .cells #[.string ((rd_T36 l0 x9_1).f0), .slice Ao12 t267.length co12, .int .i64 ((rd_T36 l0 x9_1).f2)] 36 (0, 0)) (by (with_reducible repeat (first | refine blk_drewN ?_ _ | refine blk_drew ?_ | refine blk_alloc ?_ _)); exact BK266.out) k_ hk)); (case aO => exact (by (with_reducible repeat (first | apply Kd.S_alloc | apply Kd.S_drewN | apply Kd.S_drew)); exact Kd.S_mono HO_3.out (fun k_ hk => ⟨hk.2, fun e_ => hk.1 e_⟩))); (case aS => exact (below_size (by repeat (first | (with_reducible first | exact HB.out | apply below_alloc | apply pw_below_drewN | apply below_drew1 | refine below_set ?_ GE266.out) | exact HB.out)))); (case aL => have := LMc8.out; omega); intro v271 w16 ho hb hg hat; rw [← Ny270.out] at ho; have n0_ := Aside0.mk (blk_grown (g := gb266) (o := .cells #[.string ((rd_T36 l0 x9_1).f0), .slice Ao12 t267.length co12, .int .i64 ((rd_T36 l0 x9_1).f2)] 36 (0, 0)) (by (with_reducible repeat (first | refine blk_drewN ?_ _ | refine blk_drew ?_ | refine blk_alloc ?_ _)); exact BK266.out) hg (Kd.S_away HO_3.out (fun _ hk => hk.2))); have n1_ := Aside0.mk (hb); have n2_ := Aside0.mk (ho); clear BK266; clear HB; clear HO_3; clear HO269; have BK266 := n0_; have HB := n1_; have HO272 := n2_; clear n0_ n1_ n2_; clear ho hb hg hat))
              go_roundg k1
              case measure => have := HK1.out; omega
              case rel => exact ⟨(y270), (wrap64 (x9_1 + 1)), (by first | rfl | (simp; done) | (simp [*]; done)), H', ⟨by have := HK1.out; omega⟩, ⟨by (with_reducible repeat (first | apply Kd.S_alloc | apply Kd.S_drewN | apply Kd.S_drew)); exact Kd.S_mono HO272.out (fun _ hk => trivial)⟩, ⟨by repeat (first | (with_reducible first | exact HB.out | apply below_alloc | apply pw_below_drewN | apply below_drew1 | refine below_set ?_ GE266.out) | exact HB.out)⟩⟩
            · rw [if_neg c8] at H
              exact absurd H (by simp)
          · rw [if_neg c6] at H
            exact absurd H (by simp)
        · rw [if_neg c5] at H
          exact absurd H (by simp)
      · rw [if_neg c4] at H
        have c4b0 : decide (x9_1 < (l0.length : Int)) = false := decide_eq_false c4
        clear c4
        obtain rfl := Option.some.inj H
        go_wp2
        go_ret
        exact ⟨_, by first | rfl | (simp [errW_none, errW_some] <;> rfl) | (simp [*, errW_none, errW_some] <;> rfl), by (with_reducible repeat (first | apply Kd.S_alloc | apply Kd.S_drewN | apply Kd.S_drew)); exact HO_3.out, by repeat (first | (with_reducible first | exact HB.out | apply below_alloc | apply pw_below_drewN | apply below_drew1) | exact HB.out)⟩

noncomputable def impl_AddBind.j0 : Nat → List (S36) → Int → Bool → Int → ByteArray → Int → List Int → List (S30) → Option ((List (S36)) × Bool)
  | 0, _, _, _, _, _, _, _, _ => none
  | k + 1, x0, x2, x16, x274000, x274001, x274002, x274003, x274004 => if x16 = true then (some (([] : List (S36)), false)) else ((impl_copyBinds.f k x0).bind fun t276 => ((slices_Clone_int_int.f x274003).bind fun t279 => (if t276.length < 2932031007402 then ((some (t276 ++ [(⟨x274001, t279, x2⟩ : S36)] : List (S36))).bind fun y282 => ((impl_BindsValid.f y282).bind fun t285 => (if t285 = true then (some (y282, true)) else (some (([] : List (S36)), false))))) else (none))))
noncomputable def impl_AddBind.f (k : Nat) (l0 : List (S36)) (a1_0 : Int) (a1_1 : ByteArray) (a1_2 : Int) (l1_3 : List Int) (l1_4 : List (S30)) (a2 : Int) : Option ((List (S36)) × Bool) := (impl_BindsValid.f l0).bind fun t274 => (if t274 = true then ((impl_isName.f a1_0 a1_1 a1_2 l1_3 l1_4).bind fun t275 => (impl_AddBind.j0 k l0 a2 (!t275) a1_0 a1_1 a1_2 l1_3 l1_4)) else (impl_AddBind.j0 k l0 a2 true a1_0 a1_1 a1_2 l1_3 l1_4))
theorem impl_AddBind.mono_l : ∀ k, (∀ y0 y1 y2 y3 y4 y5 y6 y7, LeO (impl_AddBind.j0 k y0 y1 y2 y3 y4 y5 y6 y7) (impl_AddBind.j0 (k + 1) y0 y1 y2 y3 y4 y5 y6 y7))
  | 0 => fun _ _ _ _ _ _ _ _ r h => by simp [impl_AddBind.j0] at h
  | k + 1 => by
    have ih0 := impl_AddBind.mono_l k
    · intro y0 y1 y2 y3 y4 y5 y6 y7
      unfold impl_AddBind.j0
      repeat' first
      | (with_reducible exact ih0 _ _ _ _ _ _ _ _)
      | (with_reducible exact impl_copyBinds.mono _ _)
      | (with_reducible exact LeO.refl _)
      | (with_reducible exact LeO.none _)
      | (with_reducible refine LeO.ite ?_ ?_)
      | (with_reducible refine LeO.bind ?_ (fun _ => ?_))
      | exact ih0 _ _ _ _ _ _ _ _
      | exact impl_copyBinds.mono _ _
      | exact LeO.none _
      | refine LeO.ite ?_ ?_
      | refine LeO.bind ?_ (fun _ => ?_)
theorem impl_AddBind.mono : ∀ a0 a1 a2 a3 a4 a5 a6 k, LeO (impl_AddBind.f k a0 a1 a2 a3 a4 a5 a6) (impl_AddBind.f (k + 1) a0 a1 a2 a3 a4 a5 a6) := by
  intro a0 a1 a2 a3 a4 a5 a6 k
  have ih0 := impl_AddBind.mono_l k
  unfold impl_AddBind.f
  repeat' first
      | (with_reducible exact ih0 _ _ _ _ _ _ _ _)
      | (with_reducible exact impl_copyBinds.mono _ _)
      | (with_reducible exact LeO.refl _)
      | (with_reducible exact LeO.none _)
      | (with_reducible refine LeO.ite ?_ ?_)
      | (with_reducible refine LeO.bind ?_ (fun _ => ?_))
      | exact ih0 _ _ _ _ _ _ _ _
      | exact impl_copyBinds.mono _ _
      | exact LeO.none _
      | refine LeO.ite ?_ ?_
      | refine LeO.bind ?_ (fun _ => ?_)
noncomputable def impl_AddBind.T3 : Bool × List (List Nat × List Nat) := (true, [([], []), ([0], [0]), ([], []), ([2], [2]), ([], []), ([4], [4]), ([5, 1], [5]), ([], []), ([3, 6, 7], [3, 6, 7]), ([8], [8]), ([1, 9, 6], [1, 9]), ([10, 10, 0, 1, 2, 3, 4, 5, 6, 7, 8, 9, 10], [10])])
noncomputable def impl_AddBind.B3 : List Nat := [0, 1, 0, 4, 0, 16, 51, 0, 255, 511, 1023, 2047]
theorem impl_AddBind.tab3 : rtab .any (opsOf Try.f22 3) = impl_AddBind.T3 := by kernel_rfl
theorem impl_AddBind.bits3 : waitsOk impl_AddBind.T3.2 impl_AddBind.B3 = true := by kernel_rfl
set_option maxHeartbeats 8000000 in
set_option maxRecDepth 100000 in
theorem impl_AddBind.calls (k : Nat) (A0 : Option Addr) (c0 : Nat) (l0 : List (S36)) (a1_0 : Int) (a1_1 : ByteArray) (a1_2 : Int) (A1_3 : Option Addr) (c1_3 : Nat) (l1_3 : List Int) (A1_4 : Option Addr) (c1_4 : Nat) (l1_4 : List (S30)) (a2 : Int) (r1 : List (S36)) (r2 : Bool) (w : World) (hr0 : Kd.C k36 w A0 l0.length l0) (hc0 : l0.length ≤ c0) (hr1_3 : Kd.C (Kd.int .i64) w A1_3 l1_3.length l1_3) (hc1_3 : l1_3.length ≤ c1_3) (hr1_4 : Kd.C k30 w A1_4 l1_4.length l1_4) (hc1_4 : l1_4.length ≤ c1_4) (h : impl_AddBind.f k l0 a1_0 a1_1 a1_2 l1_3 l1_4 a2 = some (r1, r2)) :
    Calls Try.prog 22 #[.slice A0 l0.length c0, .agg #[.int .i64 a1_0, .string a1_1, .int .i64 a1_2, .slice A1_3 l1_3.length c1_3, .slice A1_4 l1_4.length c1_4], .int .i64 a2] w fun e w' => ∃ v0_ : Value, e = .returned (.tuple #[v0_, .bool r2]) ∧ Kd.S k36 36 w' w.heap.size (fun _ => True) v0_ r1 ∧ Below w.heap.size w w' := by
  have hu30 := Try.underlying30
  have hu36 := Try.underlying36
  have HR0 := Aside0.mk hr0
  have HC0 := Aside0.mk hc0
  clear hr0 hc0
  have HR1_3 := Aside0.mk hr1_3
  have HC1_3 := Aside0.mk hc1_3
  clear hr1_3 hc1_3
  have HR1_4 := Aside0.mk hr1_4
  have HC1_4 := Aside0.mk hc1_4
  clear hr1_4 hc1_4
  have HB := Aside0.mk (Below.refl w.heap.size w)
  have H : ((impl_BindsValid.f l0).bind fun t274 => (if t274 = true then ((impl_isName.f a1_0 a1_1 a1_2 l1_3 l1_4).bind fun t275 => (impl_AddBind.j0 k l0 a2 (!t275) a1_0 a1_1 a1_2 l1_3 l1_4)) else (impl_AddBind.j0 k l0 a2 true a1_0 a1_1 a1_2 l1_3 l1_4))) = some (r1, r2) := h
  clear h
  have HC4 := Aside0.mk H
  clear H
  go_enter Try.func22, Try.ntmps22
  go_upto_region 1 with (first | ((with_reducible refine gate_dst (N := 4) rfl ?_); refine box_event ?hg (N := 4) ?hd (cs := #[.int .i64 a1_0, .string a1_1, .int .i64 a1_2, .slice A1_3 l1_3.length c1_3, .slice A1_4 l1_4.length c1_4]) (t := 30) ?hr ?_; (case hd => rfl); (case hg => rfl); (case hr => first | (go_simp; done) | (go_simp; rfl)); intro gb273 hg w5 hbox hb; have n0_ := Aside0.mk (below_step (by repeat (first | (with_reducible first | exact HB.out | apply below_alloc | apply pw_below_drewN | apply below_drew1) | exact HB.out)) hb); have n1_ := Aside0.mk (hbox); have n2_ := Aside0.mk ((by rw [hg]; exact (below_size (by repeat (first | (with_reducible first | exact HB.out | apply below_alloc | apply pw_below_drewN | apply below_drew1) | exact HB.out))) : w.heap.size ≤ gb273)); have n3_ := Aside0.mk ((by rw [hg]; exact (below_size (by repeat (first | (with_reducible first | exact HB.out | apply below_alloc | apply pw_below_drewN | apply below_drew1) | exact HB.out))) : w.heap.size ≤ gb273)); clear HB; have HB := n0_; have BK273 := n1_; have GW273 := n2_; have GE273 := n3_; clear n0_ n1_ n2_ n3_; clear hb hbox hg))
  (try simp only [Act.put, List.setIfInBounds_toArray, List.set_cons_zero, List.set_cons_succ])
  go_cut [16] (fun v16 wc => ∃ (kq : Nat) (x16_3 : Bool), v16 = .bool x16_3 ∧ Aside0 (impl_AddBind.j0 kq l0 a2 x16_3 a1_0 a1_1 a1_2 l1_3 l1_4 = some (r1, r2)) ∧ Aside0 (kq ≤ k) ∧ Aside0 (wc.heap[gb273]? = some (.cells #[.int .i64 a1_0, .string a1_1, .int .i64 a1_2, (.slice A1_3 l1_3.length c1_3), (.slice A1_4 l1_4.length c1_4)] 30 (0, 0))) ∧ Aside0 (Below w.heap.size w wc))
  case first =>
    have H := HC4.out
    clear HC4
    replace H := Option.bind_eq_some_iff.mp H
    obtain ⟨t274, A60, H⟩ := H
    replace H : (if t274 = true then ((impl_isName.f a1_0 a1_1 a1_2 l1_3 l1_4).bind fun t275 => (impl_AddBind.j0 k l0 a2 (!t275) a1_0 a1_1 a1_2 l1_3 l1_4)) else (impl_AddBind.j0 k l0 a2 true a1_0 a1_1 a1_2 l1_3 l1_4)) = some (r1, r2) := H
    have A6 := Aside0.mk A60
    clear A60
    by_cases c7 : t274 = true
    · subst c7
      have H1 : ((impl_isName.f a1_0 a1_1 a1_2 l1_3 l1_4).bind fun t275 => (impl_AddBind.j0 k l0 a2 (!t275) a1_0 a1_1 a1_2 l1_3 l1_4)) = some (r1, r2) := by rw [if_pos rfl] at H; exact H
      clear H
      have H := H1
      clear H1
      replace H := Option.bind_eq_some_iff.mp H
      obtain ⟨t275, A80, H⟩ := H
      replace H : (impl_AddBind.j0 k l0 a2 (!t275) a1_0 a1_1 a1_2 l1_3 l1_4) = some (r1, r2) := H
      have A8 := Aside0.mk A80
      clear A80
      have H' := Aside0.mk H
      clear H
      go_wp2_with (first | ((with_reducible refine gate_callee (f := 16) rfl ?_); refine goesL_ (some 10) rfl rfl Try.func16 (by kernel_rfl) rfl #[.slice A0 l0.length c0] rfl (by (try simp only [List.map_toArray, List.map_cons, List.map_nil]); first | done | rfl | (simp only [List.length_drop, List.length_take]; rfl)) ?_; (with_reducible refine (impl_BindsValid.calls _ _ l0 true _ ?side1 ?side2 A6.out).mono ?_); (case side1 => repeat (first | exact (Kd.C_below HR0.out HB.out) | (with_reducible refine Kd.C_alloc ?_ _) | (with_reducible refine Kd.C_drewN ?_ _) | (with_reducible refine Kd.C_drew ?_))); (case side2 => exact HC0.out); rintro e w9 ⟨rfl, hb⟩; refine ⟨_, rfl, ?_⟩; have n0_ := Aside0.mk (blk_below (g := gb273) (o := .cells #[.int .i64 a1_0, .string a1_1, .int .i64 a1_2, .slice A1_3 l1_3.length c1_3, .slice A1_4 l1_4.length c1_4] 30 (0, 0)) (by (with_reducible repeat (first | refine blk_drewN ?_ _ | refine blk_drew ?_ | refine blk_alloc ?_ _)); exact BK273.out) hb); have n1_ := Aside0.mk (below_step (by repeat (first | (with_reducible first | exact HB.out | apply below_alloc | apply pw_below_drewN | apply below_drew1 | refine below_set ?_ GE273.out) | exact HB.out)) hb); clear BK273; clear HB; have BK273 := n0_; have HB := n1_; clear n0_ n1_; (try clear hb); (try clear hb2); (try clear hk); (try clear hi); have hcz10_0 : w9.cell? ⟨gb273, 0, none⟩ = some (.int .i64 a1_0) := (blk_cell BK273.out 0).trans rfl; have hcz10_1 : w9.cell? ⟨gb273, 1, none⟩ = some (.string a1_1) := (blk_cell BK273.out 1).trans rfl; have hcz10_2 : w9.cell? ⟨gb273, 2, none⟩ = some (.int .i64 a1_2) := (blk_cell BK273.out 2).trans rfl; have hcz10_3 : w9.cell? ⟨gb273, 3, none⟩ = some (.slice A1_3 l1_3.length c1_3) := (blk_cell BK273.out 3).trans rfl; have hcz10_4 : w9.cell? ⟨gb273, 4, none⟩ = some (.slice A1_4 l1_4.length c1_4) := (blk_cell BK273.out 4).trans rfl; have hfz10_0 := blk_frozen BK273.out 0; have hfz10_1 := blk_frozen BK273.out 1; have hfz10_2 := blk_frozen BK273.out 2; have hfz10_3 := blk_frozen BK273.out 3; have hfz10_4 := blk_frozen BK273.out 4) | (go_at_call 52; (with_reducible refine (impl_isName.calls a1_0 a1_1 a1_2 _ _ l1_3 _ _ l1_4 t275 _ ?side1 ?side2 ?side3 ?side4 A8.out).mono ?_); (case side1 => repeat (first | exact (Kd.C_below HR1_3.out HB.out) | (with_reducible refine Kd.C_alloc ?_ _) | (with_reducible refine Kd.C_drewN ?_ _) | (with_reducible refine Kd.C_drew ?_))); (case side2 => exact HC1_3.out); (case side3 => repeat (first | exact (Kd.C_below HR1_4.out HB.out) | (with_reducible refine Kd.C_alloc ?_ _) | (with_reducible refine Kd.C_drewN ?_ _) | (with_reducible refine Kd.C_drew ?_))); (case side4 => exact HC1_4.out); rintro e w11 ⟨rfl, hb⟩; have n0_ := Aside0.mk (blk_below (g := gb273) (o := .cells #[.int .i64 a1_0, .string a1_1, .int .i64 a1_2, .slice A1_3 l1_3.length c1_3, .slice A1_4 l1_4.length c1_4] 30 (0, 0)) (by (with_reducible repeat (first | refine blk_drewN ?_ _ | refine blk_drew ?_ | refine blk_alloc ?_ _)); exact BK273.out) hb); have n1_ := Aside0.mk (below_step (by repeat (first | (with_reducible first | exact HB.out | apply below_alloc | apply pw_below_drewN | apply below_drew1 | refine below_set ?_ GE273.out) | exact HB.out)) hb); clear BK273; clear HB; have BK273 := n0_; have HB := n1_; clear n0_ n1_; (try clear hb); (try clear hb2); (try clear hk); (try clear hi)))
      go_meet
      case rel => exact ⟨_, (!t275), (by first | rfl | (simp; done) | (simp [*]; done)), H', ⟨by first | omega | exact Nat.le_refl _⟩, ⟨by (with_reducible repeat (first | refine blk_drewN ?_ _ | refine blk_drew ?_ | refine blk_alloc ?_ _)); exact BK273.out⟩, ⟨by repeat (first | (with_reducible first | exact HB.out | apply below_alloc | apply pw_below_drewN | apply below_drew1 | refine below_set ?_ GE273.out) | exact HB.out)⟩⟩
    · replace c7 := Bool.eq_false_iff.mpr c7
      subst c7
      have H1 : (impl_AddBind.j0 k l0 a2 true a1_0 a1_1 a1_2 l1_3 l1_4) = some (r1, r2) := by rw [if_neg (show ¬ (false = true) by decide)] at H; exact H
      clear H
      have H := H1
      clear H1
      have H' := Aside0.mk H
      clear H
      go_wp2_with (first | ((with_reducible refine gate_callee (f := 16) rfl ?_); refine goesL_ (some 10) rfl rfl Try.func16 (by kernel_rfl) rfl #[.slice A0 l0.length c0] rfl (by (try simp only [List.map_toArray, List.map_cons, List.map_nil]); first | done | rfl | (simp only [List.length_drop, List.length_take]; rfl)) ?_; (with_reducible refine (impl_BindsValid.calls _ _ l0 false _ ?side1 ?side2 A6.out).mono ?_); (case side1 => repeat (first | exact (Kd.C_below HR0.out HB.out) | (with_reducible refine Kd.C_alloc ?_ _) | (with_reducible refine Kd.C_drewN ?_ _) | (with_reducible refine Kd.C_drew ?_))); (case side2 => exact HC0.out); rintro e w12 ⟨rfl, hb⟩; refine ⟨_, rfl, ?_⟩; have n0_ := Aside0.mk (blk_below (g := gb273) (o := .cells #[.int .i64 a1_0, .string a1_1, .int .i64 a1_2, .slice A1_3 l1_3.length c1_3, .slice A1_4 l1_4.length c1_4] 30 (0, 0)) (by (with_reducible repeat (first | refine blk_drewN ?_ _ | refine blk_drew ?_ | refine blk_alloc ?_ _)); exact BK273.out) hb); have n1_ := Aside0.mk (below_step (by repeat (first | (with_reducible first | exact HB.out | apply below_alloc | apply pw_below_drewN | apply below_drew1 | refine below_set ?_ GE273.out) | exact HB.out)) hb); clear BK273; clear HB; have BK273 := n0_; have HB := n1_; clear n0_ n1_; (try clear hb); (try clear hb2); (try clear hk); (try clear hi)))
      go_meet
      case rel => exact ⟨_, (true), (by first | rfl | (simp; done) | (simp [*]; done)), H', ⟨by first | omega | exact Nat.le_refl _⟩, ⟨by (with_reducible repeat (first | refine blk_drewN ?_ _ | refine blk_drew ?_ | refine blk_alloc ?_ _)); exact BK273.out⟩, ⟨by repeat (first | (with_reducible first | exact HB.out | apply below_alloc | apply pw_below_drewN | apply below_drew1 | refine below_set ?_ GE273.out) | exact HB.out)⟩⟩
  case rest =>
    clear HC4
    try clear c1
    try clear c2
    try clear p2
    try clear c7
    try clear hcz10_0
    try clear hcz10_1
    try clear hcz10_2
    try clear hcz10_3
    try clear hcz10_4
    try clear hfz10_0
    try clear hfz10_1
    try clear hfz10_2
    try clear hfz10_3
    try clear hfz10_4
    obtain ⟨kq, x16_3, rfl, HA, HJ3, BK273, HB⟩ := hcut
    cases kq with
    | zero => exact absurd HA.out (by simp [impl_AddBind.j0])
    | succ kj3 =>
      have H := HA.out
      clear HA
      simp only [impl_AddBind.j0] at H
      by_cases c13 : x16_3 = true
      · subst c13
        have H1 : (some (([] : List (S36)), false)) = some (r1, r2) := by rw [if_pos rfl] at H; exact H
        clear H
        have H := H1
        clear H1
        simp only [Option.some.injEq, Prod.mk.injEq] at H
        obtain ⟨rfl, rfl⟩ := H
        go_wp2
        go_ret2
        exact ⟨_, by first | rfl | (simp [errW_none, errW_some] <;> rfl) | (simp [*, errW_none, errW_some] <;> rfl), by first | exact Kd.S_nil _ _ _ _ _ | exact Kd.N_nil _ _ _ _ _ | exact Kd.V_nil _ _ _ _ _ | exact Kd.Q_nil _ _ _ _ _ | exact Kd.R_nil _ _ _ _ _, by repeat (first | (with_reducible first | exact HB.out | apply below_alloc | apply pw_below_drewN | apply below_drew1 | refine below_set ?_ GE273.out) | exact HB.out)⟩
      · replace c13 := Bool.eq_false_iff.mpr c13
        subst c13
        have H1 : ((impl_copyBinds.f kj3 l0).bind fun t276 => ((slices_Clone_int_int.f l1_3).bind fun t279 => (if t276.length < 2932031007402 then ((some (t276 ++ [(⟨a1_1, t279, a2⟩ : S36)] : List (S36))).bind fun y282 => ((impl_BindsValid.f y282).bind fun t285 => (if t285 = true then (some (y282, true)) else (some (([] : List (S36)), false))))) else (none)))) = some (r1, r2) := by rw [if_neg (show ¬ (false = true) by decide)] at H; exact H
        clear H
        have H := H1
        clear H1
        replace H := Option.bind_eq_some_iff.mp H
        obtain ⟨t276, A140, H⟩ := H
        replace H : ((slices_Clone_int_int.f l1_3).bind fun t279 => (if t276.length < 2932031007402 then ((some (t276 ++ [(⟨a1_1, t279, a2⟩ : S36)] : List (S36))).bind fun y282 => ((impl_BindsValid.f y282).bind fun t285 => (if t285 = true then (some (y282, true)) else (some (([] : List (S36)), false))))) else (none))) = some (r1, r2) := H
        have A14 := Aside0.mk A140
        clear A140
        replace H := Option.bind_eq_some_iff.mp H
        obtain ⟨t279, A150, H⟩ := H
        replace H : (if t276.length < 2932031007402 then ((some (t276 ++ [(⟨a1_1, t279, a2⟩ : S36)] : List (S36))).bind fun y282 => ((impl_BindsValid.f y282).bind fun t285 => (if t285 = true then (some (y282, true)) else (some (([] : List (S36)), false))))) else (none)) = some (r1, r2) := H
        have A15 := Aside0.mk A150
        clear A150
        by_cases c16 : t276.length < 2932031007402
        · rw [if_pos c16] at H
          have LMc16 := Aside0.mk c16
          clear c16
          obtain ⟨y282, hy282⟩ : ∃ y_ : List (S36), y_ = (t276 ++ [(⟨a1_1, t279, a2⟩ : S36)]) := ⟨_, rfl⟩
          replace H : ((impl_BindsValid.f y282).bind fun t285 => (if t285 = true then (some (y282, true)) else (some (([] : List (S36)), false)))) = some (r1, r2) := by first | (rw [hy282]; with_reducible exact H) | (have H2_ := (Option.bind_some _ _).symm.trans H; rw [hy282]; with_reducible exact H2_) | (have H2_ := (Option.bind_some _ _).symm.trans H; with_reducible exact H2_) | with_reducible exact H | (rw [hy282]; exact H) | exact H
          have Ny282 := Aside0.mk hy282
          clear hy282
          replace H := Option.bind_eq_some_iff.mp H
          obtain ⟨t285, A170, H⟩ := H
          replace H : (if t285 = true then (some (y282, true)) else (some (([] : List (S36)), false))) = some (r1, r2) := H
          have A17 := Aside0.mk A170
          clear A170
          by_cases c18 : t285 = true
          · subst c18
            have H1 : (some (y282, true)) = some (r1, r2) := by rw [if_pos rfl] at H; exact H
            clear H
            have H := H1
            clear H1
            simp only [Option.some.injEq, Prod.mk.injEq] at H
            obtain ⟨rfl, rfl⟩ := H
            try go_wp2
            have n0_ := Aside0.mk (blk_drew BK273.out)
            have n1_ := Aside0.mk (below_drew1 HB.out)
            clear BK273
            clear HB
            have BK273 := n0_
            have HB := n1_
            clear n0_ n1_
            refine start_ (n := 12) (S := fun w' => w'.cell? ⟨gb273, 0, none⟩ = some (.int .i64 a1_0) ∧ w'.cell? ⟨gb273, 1, none⟩ = some (.string a1_1) ∧ w'.cell? ⟨gb273, 2, none⟩ = some (.int .i64 a1_2) ∧ w'.cell? ⟨gb273, 3, none⟩ = some (.slice A1_3 l1_3.length c1_3) ∧ w'.cell? ⟨gb273, 4, none⟩ = some (.slice A1_4 l1_4.length c1_4)) (ds := []) #[false, false, false, false, false, false, false, false, false, false, false, false] (by kernel_rfl) rfl rfl ⟨(blk_cell BK273.out 0).trans rfl, (blk_cell BK273.out 1).trans rfl, (blk_cell BK273.out 2).trans rfl, (blk_cell BK273.out 3).trans rfl, (blk_cell BK273.out 4).trans rfl⟩ (fun hHeld => ?_); refine with_tabW impl_AddBind.tab3 impl_AddBind.bits3 (fun HT_ HW_ => ?_)
            generalize wc.drew = w19 at BK273 HB hHeld ⊢
            refine pure_ (i := 0) (N := some 17) (v := ?_) (a' := ?_) #[true, false, false, false, false, false, false, false, false, false, false, false] rfl rfl (any_of HT_.out (by kernel_rfl)) (fun _ _ _ h => h) (Or.inl ⟨by rfl, ?_⟩) ?_ ?_
            rotate_left
            · intro w'
              go_simp
              with_reducible rfl
            rotate_left
            · simp only [Act.put, List.setIfInBounds_toArray, List.set_cons_zero, List.set_cons_succ, i64_w, i32_w]
              rfl
            refine pure_ (i := 2) (N := some 19) (v := ?_) (a' := ?_) #[true, false, true, false, false, false, false, false, false, false, false, false] rfl rfl (any_of HT_.out (by kernel_rfl)) (fun _ _ _ h => h) (Or.inl ⟨by rfl, ?_⟩) ?_ ?_
            rotate_left
            · intro w'
              go_simp
              with_reducible rfl
            rotate_left
            · simp only [Act.put, List.setIfInBounds_toArray, List.set_cons_zero, List.set_cons_succ, i64_w, i32_w]
              rfl
            refine pure_ (i := 4) (N := some 21) (v := ?_) (a' := ?_) #[true, false, true, false, true, false, false, false, false, false, false, false] rfl rfl (any_of HT_.out (by kernel_rfl)) (fun _ _ _ h => h) (Or.inl ⟨by rfl, ?_⟩) ?_ ?_
            rotate_left
            · intro w'
              go_simp
              with_reducible rfl
            rotate_left
            · simp only [Act.put, List.setIfInBounds_toArray, List.set_cons_zero, List.set_cons_succ, i64_w, i32_w]
              rfl
            refine pure_ (i := 7) (N := some 24) (v := ?_) (a' := ?_) #[true, false, true, false, true, false, false, true, false, false, false, false] rfl rfl (any_of HT_.out (by kernel_rfl)) (fun _ _ _ h => h) (Or.inl ⟨by rfl, ?_⟩) ?_ ?_
            rotate_left
            · intro w'
              go_simp
              with_reducible rfl
            rotate_left
            · simp only [Act.put, List.setIfInBounds_toArray, List.set_cons_zero, List.set_cons_succ, i64_w, i32_w]
              rfl
            refine take_ (i := 3) (N := some 20) (v := ?_) (a' := ?_) #[true, false, true, true, true, false, false, true, false, false, false, false] rfl rfl (take_ofW HT_.out HW_.out (by kernel_rfl)) (fun _ _ _ h => h) (Or.inl ⟨by rfl, ?_⟩) hHeld ?_ ?_
            rotate_left
            · rintro w' ⟨s0, s1, s2, s3, s4⟩
              go_simp
              with_reducible rfl
            rotate_left
            · simp only [Act.put, List.setIfInBounds_toArray, List.set_cons_zero, List.set_cons_succ, i64_w, i32_w]
              rfl
            refine take_ (i := 5) (N := some 22) (v := ?_) (a' := ?_) #[true, false, true, true, true, true, false, true, false, false, false, false] rfl rfl (take_ofW HT_.out HW_.out (by kernel_rfl)) (fun _ _ _ h => h) (Or.inl ⟨by rfl, ?_⟩) hHeld ?_ ?_
            rotate_left
            · rintro w' ⟨s0, s1, s2, s3, s4⟩
              go_simp
              with_reducible rfl
            rotate_left
            · simp only [Act.put, List.setIfInBounds_toArray, List.set_cons_zero, List.set_cons_succ, i64_w, i32_w]
              rfl
            refine one_ (i := 1) (N := some 18) #[true, true, true, true, true, true, false, true, false, false, false, false] rfl rfl (one_of HT_.out (by kernel_rfl)) (by decide) (fun K hK => ?_)
            refine goes_ Try.func57 (by kernel_rfl) rfl #[.slice A0 l0.length c0] (by rfl) rfl rfl (by (try simp only [List.map_toArray, List.map_cons, List.map_nil]); first | done | rfl | (simp only [List.length_drop, List.length_take]; rfl)) ?_
            with_reducible refine (impl_copyBinds.calls kj3 _ _ l0 t276 _ ?side1 ?side2 A14.out).mono ?_
            (case side1 => repeat (first | exact (Kd.C_below HR0.out HB.out) | (with_reducible refine Kd.C_alloc ?_ _) | (with_reducible refine Kd.C_drewN ?_ _) | (with_reducible refine Kd.C_drew ?_)))
            (case side2 => exact HC0.out)
            rintro e w20 ⟨v277, rfl, ho0, hb⟩
            refine ⟨_, rfl, ?_⟩
            have n0_ := Aside0.mk (Kd.S_lower ho0 (below_size (by repeat (first | (with_reducible first | exact HB.out | apply below_alloc | apply pw_below_drewN | apply below_drew1 | refine below_set ?_ GE273.out) | exact HB.out))))
            have n1_ := Aside0.mk (blk_below (g := gb273) (o := .cells #[.int .i64 a1_0, .string a1_1, .int .i64 a1_2, .slice A1_3 l1_3.length c1_3, .slice A1_4 l1_4.length c1_4] 30 (0, 0)) (by (with_reducible repeat (first | refine blk_drewN ?_ _ | refine blk_drew ?_ | refine blk_alloc ?_ _)); exact BK273.out) hb)
            have n2_ := Aside0.mk (below_step (by repeat (first | (with_reducible first | exact HB.out | apply below_alloc | apply pw_below_drewN | apply below_drew1 | refine below_set ?_ GE273.out) | exact HB.out)) hb)
            clear BK273
            clear HB
            have HO278 := n0_
            have BK273 := n1_
            have HB := n2_
            clear n0_ n1_ n2_
            (try clear hb)
            (try clear hb2)
            (try clear hk)
            (try clear hi)
            (try clear ho0)
            refine hK.out _ _ ⟨(blk_cell BK273.out 0).trans rfl, (blk_cell BK273.out 1).trans rfl, (blk_cell BK273.out 2).trans rfl, (blk_cell BK273.out 3).trans rfl, (blk_cell BK273.out 4).trans rfl⟩ (fun hHeld => ?_)
            clear hK K
            refine norm_ (a' := ?_) ?_ ?_
            rotate_left
            · show Act.put _ (some 18) _ = _
              simp only [Act.put, List.setIfInBounds_toArray, List.set_cons_zero, List.set_cons_succ, i64_w, i32_w]
              rfl
            refine one_ (i := 6) (N := some 23) #[true, true, true, true, true, true, true, true, false, false, false, false] rfl rfl (one_of HT_.out (by kernel_rfl)) (by decide) (fun K hK => ?_)
            refine goes_ Try.func58 (by kernel_rfl) rfl #[.slice A1_3 l1_3.length c1_3] (by rfl) rfl rfl (by (try simp only [List.map_toArray, List.map_cons, List.map_nil]); first | done | rfl | (simp only [List.length_drop, List.length_take]; rfl)) ?_
            with_reducible refine (slices_Clone_int_int.calls _ _ l1_3 t279 _ ?side1 ?side2 A15.out).mono ?_
            (case side1 => repeat (first | exact (Kd.C_below HR1_3.out HB.out) | (with_reducible refine Kd.C_alloc ?_ _) | (with_reducible refine Kd.C_drewN ?_ _) | (with_reducible refine Kd.C_drew ?_)))
            (case side2 => exact HC1_3.out)
            rintro e w21 ⟨v280, rfl, ho0, hb⟩
            refine ⟨_, rfl, ?_⟩
            have n0_ := Aside0.mk (Kd.S_elder' (by (with_reducible repeat (first | apply Kd.S_alloc | apply Kd.S_drewN | apply Kd.S_drew)); exact HO278.out) (Kd.R_base ho0) hb)
            have n1_ := Aside0.mk (Kd.R_lower ho0 (below_size (by repeat (first | (with_reducible first | exact HB.out | apply below_alloc | apply pw_below_drewN | apply below_drew1 | refine below_set ?_ GE273.out) | exact HB.out))))
            have n2_ := Aside0.mk (blk_below (g := gb273) (o := .cells #[.int .i64 a1_0, .string a1_1, .int .i64 a1_2, .slice A1_3 l1_3.length c1_3, .slice A1_4 l1_4.length c1_4] 30 (0, 0)) (by (with_reducible repeat (first | refine blk_drewN ?_ _ | refine blk_drew ?_ | refine blk_alloc ?_ _)); exact BK273.out) hb)
            have n3_ := Aside0.mk (below_step (by repeat (first | (with_reducible first | exact HB.out | apply below_alloc | apply pw_below_drewN | apply below_drew1 | refine below_set ?_ GE273.out) | exact HB.out)) hb)
            clear HO278
            clear BK273
            clear HB
            have HO278 := n0_
            have HO281 := n1_
            have BK273 := n2_
            have HB := n3_
            clear n0_ n1_ n2_ n3_
            (try clear hb)
            (try clear hb2)
            (try clear hk)
            (try clear hi)
            (try clear ho0)
            obtain ⟨Ao22, co22, eo22⟩ := Kd.R_slice HO281.out
            (first | subst eo22 | (injection eo22 with f1_ f2_ f3_; have f4_ := f1_.symm; have f5_ := f3_.symm; clear f1_ f2_ f3_; subst f4_; subst f5_))
            refine hK.out _ _ ⟨(blk_cell BK273.out 0).trans rfl, (blk_cell BK273.out 1).trans rfl, (blk_cell BK273.out 2).trans rfl, (blk_cell BK273.out 3).trans rfl, (blk_cell BK273.out 4).trans rfl⟩ (fun hHeld => ?_)
            clear hK K
            refine norm_ (a' := ?_) ?_ ?_
            rotate_left
            · show Act.put _ (some 23) _ = _
              simp only [Act.put, List.setIfInBounds_toArray, List.set_cons_zero, List.set_cons_succ, i64_w, i32_w]
              rfl
            refine pure_ (i := 8) (N := some 25) (v := ?_) (a' := ?_) #[true, true, true, true, true, true, true, true, true, false, false, false] rfl rfl (any_of HT_.out (by kernel_rfl)) (fun _ _ _ h => h) (Or.inl ⟨by rfl, ?_⟩) ?_ ?_
            rotate_left
            · intro w'
              go_simp
              with_reducible rfl
            rotate_left
            · simp only [Act.put, List.setIfInBounds_toArray, List.set_cons_zero, List.set_cons_succ, i64_w, i32_w]
              rfl
            refine one_ (i := 9) (N := some 26) #[true, true, true, true, true, true, true, true, true, true, false, false] rfl rfl (one_of HT_.out (by kernel_rfl)) (by decide) (fun K hK => ?_)
            refine value_ (w1 := ?_) (v := ?_) (by rfl) rfl ?_ ?_
            rotate_left 2
            · go_simp
              constructor
              · rfl
              · rfl
            refine hK.out _ _ ⟨(blk_cell (blk_alloc BK273.out _) 0).trans rfl, (blk_cell (blk_alloc BK273.out _) 1).trans rfl, (blk_cell (blk_alloc BK273.out _) 2).trans rfl, (blk_cell (blk_alloc BK273.out _) 3).trans rfl, (blk_cell (blk_alloc BK273.out _) 4).trans rfl⟩ (fun hHeld => ?_)
            clear hK K
            refine norm_ (a' := ?_) ?_ ?_
            rotate_left
            · show Act.put _ (some 26) _ = _
              simp only [Act.put, List.setIfInBounds_toArray, List.set_cons_zero, List.set_cons_succ, i64_w, i32_w]
              rfl
            refine one_ (i := 10) (N := some 27) #[true, true, true, true, true, true, true, true, true, true, true, false] rfl rfl (one_of HT_.out (by kernel_rfl)) (by decide) (fun K hK => ?_)
            refine Kd.S_append_step k36 (w0 := w) w.heap.size (by rfl) (.tmp 18) (.tmp 26) 23 36 (.agg #[(.string ⟨#[]⟩), (.slice none 0 0), (.int .i64 0)]) 48 rfl Try.underlying23 info36 rfl (by decide) (by omega) v277 t276 (⟨a1_1, t279, a2⟩ : S36) [.string a1_1, .slice Ao22 t279.length co22, .int .i64 a2] (fun _ => True) (fun k_ => some k_ = (.slice Ao22 t279.length co22 : Value).ownBlock) rfl rfl ?aP (fun k_ hk_ => ((Kd.R_mono (ok' := fun k_ => ((fun _ => True)) k_ ∧ some k_ ≠ (v277 : Value).ownBlock) (Kd.R_apart' (HO281.out) (Kd.S_typed HO278.out) (by decide)) (fun k_ hk => ⟨trivial, hk.2⟩))).1 k_ hk_.symm) ?aF ?aO ?aB ?aS ?aL ?_
            (case aP => exact k36_mkM _ _ _ (⟨a1_1, t279, a2⟩ : S36) (Kd.R_mono (Kd.R_tight rfl (Kd.R_mono (ok' := fun k_ => ((fun _ => True)) k_ ∧ some k_ ≠ (v277 : Value).ownBlock) (Kd.R_apart' (HO281.out) (Kd.S_typed HO278.out) (by decide)) (fun k_ hk => ⟨trivial, hk.2⟩))) (fun _ h_ => h_)))
            (case aB => exact (by repeat (first | (with_reducible first | exact HB.out | apply below_alloc | apply pw_below_drewN | apply below_drew1 | refine below_set ?_ GE273.out) | exact HB.out)))
            (case aF => exact (fun _ _ => trivial))
            (case aO => exact (by (with_reducible repeat (first | apply Kd.S_alloc | apply Kd.S_drewN | apply Kd.S_drew)); exact Kd.S_mono HO278.out (fun k_ hk => ⟨trivial, fun e_ => hk.2 e_⟩)))
            (case aS => exact (below_size (by repeat (first | (with_reducible first | exact HB.out | apply below_alloc | apply pw_below_drewN | apply below_drew1 | refine below_set ?_ GE273.out) | exact HB.out))))
            (case aL => have := LMc16.out; omega)
            intro v283 w23 ho hb hg hat
            rw [← Ny282.out] at ho
            have n0_ := Aside0.mk (blk_grown (g := gb273) (o := .cells #[.int .i64 a1_0, .string a1_1, .int .i64 a1_2, .slice A1_3 l1_3.length c1_3, .slice A1_4 l1_4.length c1_4] 30 (0, 0)) (by (with_reducible repeat (first | refine blk_drewN ?_ _ | refine blk_drew ?_ | refine blk_alloc ?_ _)); exact BK273.out) hg (Kd.S_ne HO278.out BK273.out (by decide)))
            have n1_ := Aside0.mk (hb)
            have n2_ := Aside0.mk (ho)
            clear BK273
            clear HB
            clear HO278
            clear HO281
            have BK273 := n0_
            have HB := n1_
            have HO284 := n2_
            clear n0_ n1_ n2_
            clear ho hb hg hat
            refine hK.out _ _ ⟨(blk_cell BK273.out 0).trans rfl, (blk_cell BK273.out 1).trans rfl, (blk_cell BK273.out 2).trans rfl, (blk_cell BK273.out 3).trans rfl, (blk_cell BK273.out 4).trans rfl⟩ (fun hHeld => ?_)
            clear hK K
            refine norm_ (a' := ?_) ?_ ?_
            rotate_left
            · show Act.put _ (some 27) _ = _
              simp only [Act.put, List.setIfInBounds_toArray, List.set_cons_zero, List.set_cons_succ, i64_w, i32_w]
              rfl
            refine pure_ (i := 11) (N := some 8) (v := ?_) (a' := ?_) #[true, true, true, true, true, true, true, true, true, true, true, true] rfl rfl (any_of HT_.out (by kernel_rfl)) (fun _ _ _ h => h) (Or.inl ⟨by rfl, ?_⟩) ?_ ?_
            rotate_left
            · intro w'
              go_simp
              with_reducible rfl
            rotate_left
            · simp only [Act.put, List.setIfInBounds_toArray, List.set_cons_zero, List.set_cons_succ, i64_w, i32_w]
              rfl
            refine done_ (done_of HT_.out (by kernel_rfl)) ?_
            obtain ⟨Ao24, co24, eo24⟩ := Kd.S_slice HO284.out
            subst eo24
            try go_wp2_with (first | ((with_reducible refine gate_callee (f := 16) rfl ?_); refine goesL_ (some 29) rfl rfl Try.func16 (by kernel_rfl) rfl #[.slice Ao24 y282.length co24] rfl (by (try simp only [List.map_toArray, List.map_cons, List.map_nil]); first | done | rfl | (simp only [List.length_drop, List.length_take]; rfl)) ?_; (with_reducible refine (impl_BindsValid.calls _ _ y282 true _ ?side1 ?side2 A17.out).mono ?_); (case side1 => repeat (first | exact (Kd.S_reads' HO284.out).2.2 | (with_reducible refine Kd.C_alloc ?_ _) | (with_reducible refine Kd.C_drewN ?_ _) | (with_reducible refine Kd.C_drew ?_))); (case side2 => exact (Kd.S_reads' HO284.out).2.1); rintro e w25 ⟨rfl, hb⟩; refine ⟨_, rfl, ?_⟩; have n0_ := Aside0.mk (Kd.S_below (by (with_reducible repeat (first | apply Kd.S_alloc | apply Kd.S_drewN | apply Kd.S_drew)); exact HO284.out) hb); have n1_ := Aside0.mk (blk_below (g := gb273) (o := .cells #[.int .i64 a1_0, .string a1_1, .int .i64 a1_2, .slice A1_3 l1_3.length c1_3, .slice A1_4 l1_4.length c1_4] 30 (0, 0)) (by (with_reducible repeat (first | refine blk_drewN ?_ _ | refine blk_drew ?_ | refine blk_alloc ?_ _)); exact BK273.out) hb); have n2_ := Aside0.mk (below_step (by repeat (first | (with_reducible first | exact HB.out | apply below_alloc | apply pw_below_drewN | apply below_drew1 | refine below_set ?_ GE273.out) | exact HB.out)) hb); clear HO284; clear BK273; clear HB; have HO284 := n0_; have BK273 := n1_; have HB := n2_; clear n0_ n1_ n2_; (try clear hb); (try clear hb2); (try clear hk); (try clear hi)))
            go_ret2
            exact ⟨_, by first | rfl | (simp [errW_none, errW_some] <;> rfl) | (simp [*, errW_none, errW_some] <;> rfl), by (with_reducible repeat (first | apply Kd.S_alloc | apply Kd.S_drewN | apply Kd.S_drew)); exact HO284.out, by repeat (first | (with_reducible first | exact HB.out | apply below_alloc | apply pw_below_drewN | apply below_drew1 | refine below_set ?_ GE273.out) | exact HB.out)⟩
          · replace c18 := Bool.eq_false_iff.mpr c18
            subst c18
            have H1 : (some (([] : List (S36)), false)) = some (r1, r2) := by rw [if_neg (show ¬ (false = true) by decide)] at H; exact H
            clear H
            have H := H1
            clear H1
            simp only [Option.some.injEq, Prod.mk.injEq] at H
            obtain ⟨rfl, rfl⟩ := H
            try go_wp2
            have n0_ := Aside0.mk (blk_drew BK273.out)
            have n1_ := Aside0.mk (below_drew1 HB.out)
            clear BK273
            clear HB
            have BK273 := n0_
            have HB := n1_
            clear n0_ n1_
            refine start_ (n := 12) (S := fun w' => w'.cell? ⟨gb273, 0, none⟩ = some (.int .i64 a1_0) ∧ w'.cell? ⟨gb273, 1, none⟩ = some (.string a1_1) ∧ w'.cell? ⟨gb273, 2, none⟩ = some (.int .i64 a1_2) ∧ w'.cell? ⟨gb273, 3, none⟩ = some (.slice A1_3 l1_3.length c1_3) ∧ w'.cell? ⟨gb273, 4, none⟩ = some (.slice A1_4 l1_4.length c1_4)) (ds := []) #[false, false, false, false, false, false, false, false, false, false, false, false] (by kernel_rfl) rfl rfl ⟨(blk_cell BK273.out 0).trans rfl, (blk_cell BK273.out 1).trans rfl, (blk_cell BK273.out 2).trans rfl, (blk_cell BK273.out 3).trans rfl, (blk_cell BK273.out 4).trans rfl⟩ (fun hHeld => ?_); refine with_tabW impl_AddBind.tab3 impl_AddBind.bits3 (fun HT_ HW_ => ?_)
            generalize wc.drew = w26 at BK273 HB hHeld ⊢
            refine pure_ (i := 0) (N := some 17) (v := ?_) (a' := ?_) #[true, false, false, false, false, false, false, false, false, false, false, false] rfl rfl (any_of HT_.out (by kernel_rfl)) (fun _ _ _ h => h) (Or.inl ⟨by rfl, ?_⟩) ?_ ?_
            rotate_left
            · intro w'
              go_simp
              with_reducible rfl
            rotate_left
            · simp only [Act.put, List.setIfInBounds_toArray, List.set_cons_zero, List.set_cons_succ, i64_w, i32_w]
              rfl
            refine pure_ (i := 2) (N := some 19) (v := ?_) (a' := ?_) #[true, false, true, false, false, false, false, false, false, false, false, false] rfl rfl (any_of HT_.out (by kernel_rfl)) (fun _ _ _ h => h) (Or.inl ⟨by rfl, ?_⟩) ?_ ?_
            rotate_left
            · intro w'
              go_simp
              with_reducible rfl
            rotate_left
            · simp only [Act.put, List.setIfInBounds_toArray, List.set_cons_zero, List.set_cons_succ, i64_w, i32_w]
              rfl
            refine pure_ (i := 4) (N := some 21) (v := ?_) (a' := ?_) #[true, false, true, false, true, false, false, false, false, false, false, false] rfl rfl (any_of HT_.out (by kernel_rfl)) (fun _ _ _ h => h) (Or.inl ⟨by rfl, ?_⟩) ?_ ?_
            rotate_left
            · intro w'
              go_simp
              with_reducible rfl
            rotate_left
            · simp only [Act.put, List.setIfInBounds_toArray, List.set_cons_zero, List.set_cons_succ, i64_w, i32_w]
              rfl
            refine pure_ (i := 7) (N := some 24) (v := ?_) (a' := ?_) #[true, false, true, false, true, false, false, true, false, false, false, false] rfl rfl (any_of HT_.out (by kernel_rfl)) (fun _ _ _ h => h) (Or.inl ⟨by rfl, ?_⟩) ?_ ?_
            rotate_left
            · intro w'
              go_simp
              with_reducible rfl
            rotate_left
            · simp only [Act.put, List.setIfInBounds_toArray, List.set_cons_zero, List.set_cons_succ, i64_w, i32_w]
              rfl
            refine take_ (i := 3) (N := some 20) (v := ?_) (a' := ?_) #[true, false, true, true, true, false, false, true, false, false, false, false] rfl rfl (take_ofW HT_.out HW_.out (by kernel_rfl)) (fun _ _ _ h => h) (Or.inl ⟨by rfl, ?_⟩) hHeld ?_ ?_
            rotate_left
            · rintro w' ⟨s0, s1, s2, s3, s4⟩
              go_simp
              with_reducible rfl
            rotate_left
            · simp only [Act.put, List.setIfInBounds_toArray, List.set_cons_zero, List.set_cons_succ, i64_w, i32_w]
              rfl
            refine take_ (i := 5) (N := some 22) (v := ?_) (a' := ?_) #[true, false, true, true, true, true, false, true, false, false, false, false] rfl rfl (take_ofW HT_.out HW_.out (by kernel_rfl)) (fun _ _ _ h => h) (Or.inl ⟨by rfl, ?_⟩) hHeld ?_ ?_
            rotate_left
            · rintro w' ⟨s0, s1, s2, s3, s4⟩
              go_simp
              with_reducible rfl
            rotate_left
            · simp only [Act.put, List.setIfInBounds_toArray, List.set_cons_zero, List.set_cons_succ, i64_w, i32_w]
              rfl
            refine one_ (i := 1) (N := some 18) #[true, true, true, true, true, true, false, true, false, false, false, false] rfl rfl (one_of HT_.out (by kernel_rfl)) (by decide) (fun K hK => ?_)
            refine goes_ Try.func57 (by kernel_rfl) rfl #[.slice A0 l0.length c0] (by rfl) rfl rfl (by (try simp only [List.map_toArray, List.map_cons, List.map_nil]); first | done | rfl | (simp only [List.length_drop, List.length_take]; rfl)) ?_
            with_reducible refine (impl_copyBinds.calls kj3 _ _ l0 t276 _ ?side1 ?side2 A14.out).mono ?_
            (case side1 => repeat (first | exact (Kd.C_below HR0.out HB.out) | (with_reducible refine Kd.C_alloc ?_ _) | (with_reducible refine Kd.C_drewN ?_ _) | (with_reducible refine Kd.C_drew ?_)))
            (case side2 => exact HC0.out)
            rintro e w27 ⟨v277, rfl, ho0, hb⟩
            refine ⟨_, rfl, ?_⟩
            have n0_ := Aside0.mk (Kd.S_lower ho0 (below_size (by repeat (first | (with_reducible first | exact HB.out | apply below_alloc | apply pw_below_drewN | apply below_drew1 | refine below_set ?_ GE273.out) | exact HB.out))))
            have n1_ := Aside0.mk (blk_below (g := gb273) (o := .cells #[.int .i64 a1_0, .string a1_1, .int .i64 a1_2, .slice A1_3 l1_3.length c1_3, .slice A1_4 l1_4.length c1_4] 30 (0, 0)) (by (with_reducible repeat (first | refine blk_drewN ?_ _ | refine blk_drew ?_ | refine blk_alloc ?_ _)); exact BK273.out) hb)
            have n2_ := Aside0.mk (below_step (by repeat (first | (with_reducible first | exact HB.out | apply below_alloc | apply pw_below_drewN | apply below_drew1 | refine below_set ?_ GE273.out) | exact HB.out)) hb)
            clear BK273
            clear HB
            have HO278 := n0_
            have BK273 := n1_
            have HB := n2_
            clear n0_ n1_ n2_
            (try clear hb)
            (try clear hb2)
            (try clear hk)
            (try clear hi)
            (try clear ho0)
            refine hK.out _ _ ⟨(blk_cell BK273.out 0).trans rfl, (blk_cell BK273.out 1).trans rfl, (blk_cell BK273.out 2).trans rfl, (blk_cell BK273.out 3).trans rfl, (blk_cell BK273.out 4).trans rfl⟩ (fun hHeld => ?_)
            clear hK K
            refine norm_ (a' := ?_) ?_ ?_
            rotate_left
            · show Act.put _ (some 18) _ = _
              simp only [Act.put, List.setIfInBounds_toArray, List.set_cons_zero, List.set_cons_succ, i64_w, i32_w]
              rfl
            refine one_ (i := 6) (N := some 23) #[true, true, true, true, true, true, true, true, false, false, false, false] rfl rfl (one_of HT_.out (by kernel_rfl)) (by decide) (fun K hK => ?_)
            refine goes_ Try.func58 (by kernel_rfl) rfl #[.slice A1_3 l1_3.length c1_3] (by rfl) rfl rfl (by (try simp only [List.map_toArray, List.map_cons, List.map_nil]); first | done | rfl | (simp only [List.length_drop, List.length_take]; rfl)) ?_
            with_reducible refine (slices_Clone_int_int.calls _ _ l1_3 t279 _ ?side1 ?side2 A15.out).mono ?_
            (case side1 => repeat (first | exact (Kd.C_below HR1_3.out HB.out) | (with_reducible refine Kd.C_alloc ?_ _) | (with_reducible refine Kd.C_drewN ?_ _) | (with_reducible refine Kd.C_drew ?_)))
            (case side2 => exact HC1_3.out)
            rintro e w28 ⟨v280, rfl, ho0, hb⟩
            refine ⟨_, rfl, ?_⟩
            have n0_ := Aside0.mk (Kd.S_elder' (by (with_reducible repeat (first | apply Kd.S_alloc | apply Kd.S_drewN | apply Kd.S_drew)); exact HO278.out) (Kd.R_base ho0) hb)
            have n1_ := Aside0.mk (Kd.R_lower ho0 (below_size (by repeat (first | (with_reducible first | exact HB.out | apply below_alloc | apply pw_below_drewN | apply below_drew1 | refine below_set ?_ GE273.out) | exact HB.out))))
            have n2_ := Aside0.mk (blk_below (g := gb273) (o := .cells #[.int .i64 a1_0, .string a1_1, .int .i64 a1_2, .slice A1_3 l1_3.length c1_3, .slice A1_4 l1_4.length c1_4] 30 (0, 0)) (by (with_reducible repeat (first | refine blk_drewN ?_ _ | refine blk_drew ?_ | refine blk_alloc ?_ _)); exact BK273.out) hb)
            have n3_ := Aside0.mk (below_step (by repeat (first | (with_reducible first | exact HB.out | apply below_alloc | apply pw_below_drewN | apply below_drew1 | refine below_set ?_ GE273.out) | exact HB.out)) hb)
            clear HO278
            clear BK273
            clear HB
            have HO278 := n0_
            have HO281 := n1_
            have BK273 := n2_
            have HB := n3_
            clear n0_ n1_ n2_ n3_
            (try clear hb)
            (try clear hb2)
            (try clear hk)
            (try clear hi)
            (try clear ho0)
            obtain ⟨Ao29, co29, eo29⟩ := Kd.R_slice HO281.out
            (first | subst eo29 | (injection eo29 with f1_ f2_ f3_; have f4_ := f1_.symm; have f5_ := f3_.symm; clear f1_ f2_ f3_; subst f4_; subst f5_))
            refine hK.out _ _ ⟨(blk_cell BK273.out 0).trans rfl, (blk_cell BK273.out 1).trans rfl, (blk_cell BK273.out 2).trans rfl, (blk_cell BK273.out 3).trans rfl, (blk_cell BK273.out 4).trans rfl⟩ (fun hHeld => ?_)
            clear hK K
            refine norm_ (a' := ?_) ?_ ?_
            rotate_left
            · show Act.put _ (some 23) _ = _
              simp only [Act.put, List.setIfInBounds_toArray, List.set_cons_zero, List.set_cons_succ, i64_w, i32_w]
              rfl
            refine pure_ (i := 8) (N := some 25) (v := ?_) (a' := ?_) #[true, true, true, true, true, true, true, true, true, false, false, false] rfl rfl (any_of HT_.out (by kernel_rfl)) (fun _ _ _ h => h) (Or.inl ⟨by rfl, ?_⟩) ?_ ?_
            rotate_left
            · intro w'
              go_simp
              with_reducible rfl
            rotate_left
            · simp only [Act.put, List.setIfInBounds_toArray, List.set_cons_zero, List.set_cons_succ, i64_w, i32_w]
              rfl
            refine one_ (i := 9) (N := some 26) #[true, true, true, true, true, true, true, true, true, true, false, false] rfl rfl (one_of HT_.out (by kernel_rfl)) (by decide) (fun K hK => ?_)
            refine value_ (w1 := ?_) (v := ?_) (by rfl) rfl ?_ ?_
            rotate_left 2
            · go_simp
              constructor
              · rfl
              · rfl
            refine hK.out _ _ ⟨(blk_cell (blk_alloc BK273.out _) 0).trans rfl, (blk_cell (blk_alloc BK273.out _) 1).trans rfl, (blk_cell (blk_alloc BK273.out _) 2).trans rfl, (blk_cell (blk_alloc BK273.out _) 3).trans rfl, (blk_cell (blk_alloc BK273.out _) 4).trans rfl⟩ (fun hHeld => ?_)
            clear hK K
            refine norm_ (a' := ?_) ?_ ?_
            rotate_left
            · show Act.put _ (some 26) _ = _
              simp only [Act.put, List.setIfInBounds_toArray, List.set_cons_zero, List.set_cons_succ, i64_w, i32_w]
              rfl
            refine one_ (i := 10) (N := some 27) #[true, true, true, true, true, true, true, true, true, true, true, false] rfl rfl (one_of HT_.out (by kernel_rfl)) (by decide) (fun K hK => ?_)
            refine Kd.S_append_step k36 (w0 := w) w.heap.size (by rfl) (.tmp 18) (.tmp 26) 23 36 (.agg #[(.string ⟨#[]⟩), (.slice none 0 0), (.int .i64 0)]) 48 rfl Try.underlying23 info36 rfl (by decide) (by omega) v277 t276 (⟨a1_1, t279, a2⟩ : S36) [.string a1_1, .slice Ao29 t279.length co29, .int .i64 a2] (fun _ => True) (fun k_ => some k_ = (.slice Ao29 t279.length co29 : Value).ownBlock) rfl rfl ?aP (fun k_ hk_ => ((Kd.R_mono (ok' := fun k_ => ((fun _ => True)) k_ ∧ some k_ ≠ (v277 : Value).ownBlock) (Kd.R_apart' (HO281.out) (Kd.S_typed HO278.out) (by decide)) (fun k_ hk => ⟨trivial, hk.2⟩))).1 k_ hk_.symm) ?aF ?aO ?aB ?aS ?aL ?_
            (case aP => exact k36_mkM _ _ _ (⟨a1_1, t279, a2⟩ : S36) (Kd.R_mono (Kd.R_tight rfl (Kd.R_mono (ok' := fun k_ => ((fun _ => True)) k_ ∧ some k_ ≠ (v277 : Value).ownBlock) (Kd.R_apart' (HO281.out) (Kd.S_typed HO278.out) (by decide)) (fun k_ hk => ⟨trivial, hk.2⟩))) (fun _ h_ => h_)))
            (case aB => exact (by repeat (first | (with_reducible first | exact HB.out | apply below_alloc | apply pw_below_drewN | apply below_drew1 | refine below_set ?_ GE273.out) | exact HB.out)))
            (case aF => exact (fun _ _ => trivial))
            (case aO => exact (by (with_reducible repeat (first | apply Kd.S_alloc | apply Kd.S_drewN | apply Kd.S_drew)); exact Kd.S_mono HO278.out (fun k_ hk => ⟨trivial, fun e_ => hk.2 e_⟩)))
            (case aS => exact (below_size (by repeat (first | (with_reducible first | exact HB.out | apply below_alloc | apply pw_below_drewN | apply below_drew1 | refine below_set ?_ GE273.out) | exact HB.out))))
            (case aL => have := LMc16.out; omega)
            intro v283 w30 ho hb hg hat
            rw [← Ny282.out] at ho
            have n0_ := Aside0.mk (blk_grown (g := gb273) (o := .cells #[.int .i64 a1_0, .string a1_1, .int .i64 a1_2, .slice A1_3 l1_3.length c1_3, .slice A1_4 l1_4.length c1_4] 30 (0, 0)) (by (with_reducible repeat (first | refine blk_drewN ?_ _ | refine blk_drew ?_ | refine blk_alloc ?_ _)); exact BK273.out) hg (Kd.S_ne HO278.out BK273.out (by decide)))
            have n1_ := Aside0.mk (hb)
            have n2_ := Aside0.mk (ho)
            clear BK273
            clear HB
            clear HO278
            clear HO281
            have BK273 := n0_
            have HB := n1_
            have HO284 := n2_
            clear n0_ n1_ n2_
            clear ho hb hg hat
            refine hK.out _ _ ⟨(blk_cell BK273.out 0).trans rfl, (blk_cell BK273.out 1).trans rfl, (blk_cell BK273.out 2).trans rfl, (blk_cell BK273.out 3).trans rfl, (blk_cell BK273.out 4).trans rfl⟩ (fun hHeld => ?_)
            clear hK K
            refine norm_ (a' := ?_) ?_ ?_
            rotate_left
            · show Act.put _ (some 27) _ = _
              simp only [Act.put, List.setIfInBounds_toArray, List.set_cons_zero, List.set_cons_succ, i64_w, i32_w]
              rfl
            refine pure_ (i := 11) (N := some 8) (v := ?_) (a' := ?_) #[true, true, true, true, true, true, true, true, true, true, true, true] rfl rfl (any_of HT_.out (by kernel_rfl)) (fun _ _ _ h => h) (Or.inl ⟨by rfl, ?_⟩) ?_ ?_
            rotate_left
            · intro w'
              go_simp
              with_reducible rfl
            rotate_left
            · simp only [Act.put, List.setIfInBounds_toArray, List.set_cons_zero, List.set_cons_succ, i64_w, i32_w]
              rfl
            refine done_ (done_of HT_.out (by kernel_rfl)) ?_
            obtain ⟨Ao31, co31, eo31⟩ := Kd.S_slice HO284.out
            subst eo31
            try go_wp2_with (first | ((with_reducible refine gate_callee (f := 16) rfl ?_); refine goesL_ (some 29) rfl rfl Try.func16 (by kernel_rfl) rfl #[.slice Ao31 y282.length co31] rfl (by (try simp only [List.map_toArray, List.map_cons, List.map_nil]); first | done | rfl | (simp only [List.length_drop, List.length_take]; rfl)) ?_; (with_reducible refine (impl_BindsValid.calls _ _ y282 false _ ?side1 ?side2 A17.out).mono ?_); (case side1 => repeat (first | exact (Kd.S_reads' HO284.out).2.2 | (with_reducible refine Kd.C_alloc ?_ _) | (with_reducible refine Kd.C_drewN ?_ _) | (with_reducible refine Kd.C_drew ?_))); (case side2 => exact (Kd.S_reads' HO284.out).2.1); rintro e w32 ⟨rfl, hb⟩; refine ⟨_, rfl, ?_⟩; have n0_ := Aside0.mk (Kd.S_below (by (with_reducible repeat (first | apply Kd.S_alloc | apply Kd.S_drewN | apply Kd.S_drew)); exact HO284.out) hb); have n1_ := Aside0.mk (blk_below (g := gb273) (o := .cells #[.int .i64 a1_0, .string a1_1, .int .i64 a1_2, .slice A1_3 l1_3.length c1_3, .slice A1_4 l1_4.length c1_4] 30 (0, 0)) (by (with_reducible repeat (first | refine blk_drewN ?_ _ | refine blk_drew ?_ | refine blk_alloc ?_ _)); exact BK273.out) hb); have n2_ := Aside0.mk (below_step (by repeat (first | (with_reducible first | exact HB.out | apply below_alloc | apply pw_below_drewN | apply below_drew1 | refine below_set ?_ GE273.out) | exact HB.out)) hb); clear HO284; clear BK273; clear HB; have HO284 := n0_; have BK273 := n1_; have HB := n2_; clear n0_ n1_ n2_; (try clear hb); (try clear hb2); (try clear hk); (try clear hi)))
            go_ret2
            exact ⟨_, by first | rfl | (simp [errW_none, errW_some] <;> rfl) | (simp [*, errW_none, errW_some] <;> rfl), by first | exact Kd.S_nil _ _ _ _ _ | exact Kd.N_nil _ _ _ _ _ | exact Kd.V_nil _ _ _ _ _ | exact Kd.Q_nil _ _ _ _ _ | exact Kd.R_nil _ _ _ _ _, by repeat (first | (with_reducible first | exact HB.out | apply below_alloc | apply pw_below_drewN | apply below_drew1 | refine below_set ?_ GE273.out) | exact HB.out)⟩
        · rw [if_neg c16] at H
          exact absurd H (by simp)

end Go.Proofs.Ytcbomlmlindjdaa.Q
end
section
namespace Go.Proofs.Ytcbomlmlindjdaa.Q
open Go.RowKit Go.Proofs.YtcbomlmlindjdaaW.PrintWords Go.Proofs.YtcbomlmlindjdaaW.PrintLast Go.Proofs.YtcbomlmlindjdaaW.PrintMore
attribute [local go_sem] max2_int min2_int max_two min_two max_three min_three max_four min_four   -- for this text's walks alone
set_option linter.unusedVariables false
set_option linter.unusedSimpArgs false

end Go.Proofs.Ytcbomlmlindjdaa.Q
end
section
namespace Go.Proofs.Ytcbomlmlindjdaa.Q
open Go.RowKit Go.Proofs.YtcbomlmlindjdaaW.PrintWords Go.Proofs.YtcbomlmlindjdaaW.PrintLast Go.Proofs.YtcbomlmlindjdaaW.PrintMore
attribute [local go_sem] max2_int min2_int max_two min_two max_three min_three max_four min_four   -- for this text's walks alone
set_option linter.unusedVariables false
set_option linter.unusedSimpArgs false

end Go.Proofs.Ytcbomlmlindjdaa.Q
end
section
namespace Go.Proofs.Ytcbomlmlindjdaa
open Go.RowKit Go.Proofs.YtcbomlmlindjdaaW.PrintWords
set_option linter.unusedVariables false
set_option linter.unusedSimpArgs false
theorem rdB {l : List Bd} {i : Nat} (h : i < l.length) : Q.rd_T36 l (i : Int) = l[i] := by
  simp [Q.rd_T36, List.getD, h]
/-- A list of bindings of a bounded size. -/
def SmB (l : List Bd) : Prop := l.length ≤ 2000000 ∧ ∀ b, b ∈ l → b.f0.size ≤ 2000000 ∧ b.f1.length ≤ 2000000
theorem SmB.nm {l : List Bd} (h : SmB l) {i : Nat} (hi : i < l.length) : l[i].f0.size ≤ 140737488351232 := by have := (h.2 _ (List.getElem_mem hi)).1; omega
/-- A loop that goes on while P holds. -/
theorem ev_all {R : Type} {L : Nat → Nat → Option R} (P : Nat → Prop) (N : Nat) (rT rF : R)
    (hs : ∀ i, i < N → P i → ∀ r, Ev (fun k => L k (i + 1)) r → Ev (fun k => L k i) r) (hf : ∀ i, i < N → ¬ P i → Ev (fun k => L k i) rF) (he : Ev (fun k => L k N) rT) :
    ((∀ i, i < N → P i) → Ev (fun k => L k 0) rT) ∧ ((¬ ∀ i, i < N → P i) → Ev (fun k => L k 0) rF) := by
  have key : ∀ m i, i + m = N → ((∀ j, i ≤ j → j < N → P j) → Ev (fun k => L k i) rT) ∧ ((¬ ∀ j, i ≤ j → j < N → P j) → Ev (fun k => L k i) rF) := by
    intro m
    induction m with
    | zero =>
      intro i hi
      obtain rfl : i = N := by omega
      exact ⟨fun _ => he, fun h => absurd (fun j h1 h2 => absurd h2 (by omega)) h⟩
    | succ m ih =>
      intro i hi
      obtain ⟨h1, h2⟩ := ih (i + 1) (by omega)
      by_cases hp : P i
      · refine ⟨fun h => hs i (by omega) hp _ (h1 (fun j ha hb => h j (by omega) hb)), fun h => hs i (by omega) hp _ (h2 (fun k => h (fun j ha hb => ?_)))⟩
        by_cases e : j = i
        · rw [e]; exact hp
        · exact k j (by omega) hb
      · exact ⟨fun h => absurd (h i (Nat.le_refl _) (by omega)) hp, fun _ => hf i (by omega) hp⟩
  obtain ⟨h1, h2⟩ := key N 0 (by omega)
  exact ⟨fun h => h1 (fun j _ hj => h j hj), fun h => h2 (fun k => h (fun j hj => k j (Nat.zero_le _) hj))⟩
section
open Go.Proofs.Ytcbomlmlindjdaa.Q
theorem bds_row {l : List Bd} (hl : SmB l) {i : Nat} (hi : i < l.length) (h60 : i ≤ 60) : (BdAt l i → ∀ r, Ev (fun k => spec_BindsValid.l0 k l ((i + 1 : Nat) : Int)) r → Ev (fun k => spec_BindsValid.l0 k l (i : Int)) r) ∧ (¬ BdAt l i → Ev (fun k => spec_BindsValid.l0 k l (i : Int)) false) := by
  have hnm := hl.nm hi
  have hI : (i : Int) < (l.length : Int) := by omega
  have h0 : (0 : Int) ≤ (i : Int) := by omega
  have hd : decide ((i : Int) ≤ 60) = true := decide_eq_true (by omega)
  have hR := rdB hi
  have pre : ∀ r, Ev (fun k => (spec_l1Scopes.f (rd_T36 l (i : Int)).f1).bind fun t417 => (if t417 = true then (if ((rd_T36 l (i : Int)).f2) < 1 then (spec_BindsValid.j2 k l (i : Int) true) else (spec_BindsValid.j2 k l (i : Int) (decide (((rd_T36 l (i : Int)).f2) > 999)))) else (spec_BindsValid.j2 k l (i : Int) true))) r → nmB l[i].f0 = true → Ev (fun k => spec_BindsValid.l0 k l (i : Int)) r := by
    intro r hr hn
    refine Ev.step (fun k => by rw [spec_BindsValid.l0]) (Ev.pos hI ?_)
    rw [hd]
    refine Ev.step (fun k => by rw [spec_BindsValid.j1]) (Ev.pos rfl (Ev.pos h0 (Ev.pos hI ?_)))
    exact Ev.bind (g := fun _ => _) (Ev.some (gIf_yes (by rw [hR]; exact hnm) _)) (Ev.pos (by rw [hR]; exact hn) hr)
  have preF : nmB l[i].f0 = false → Ev (fun k => spec_BindsValid.l0 k l (i : Int)) false := by
    intro hn
    refine Ev.step (fun k => by rw [spec_BindsValid.l0]) (Ev.pos hI ?_)
    rw [hd]
    refine Ev.step (fun k => by rw [spec_BindsValid.j1]) (Ev.pos rfl (Ev.pos h0 (Ev.pos hI ?_)))
    refine Ev.bind (g := fun _ => _) (Ev.some (gIf_yes (by rw [hR]; exact hnm) _)) (Ev.neg (by rw [hR, hn]; simp) ?_)
    exact Ev.step (fun k => by rw [spec_BindsValid.j2]) (Ev.pos rfl (Ev.now _))
  rcases hn : nmB l[i].f0 with _ | _
  · exact ⟨fun h => absurd (h hi).1.1 (nmB_false hn), fun _ => preF hn⟩
  rcases hsc : pB (ScOk l[i].f1) with _ | _
  · refine ⟨fun h => absurd (h hi).1.2.1 (pB_false hsc), fun _ => pre _ ?_ hn⟩
    refine Ev.bind (g := fun _ => _) (Ev.some rfl) (Ev.neg (by rw [hR, hsc]; simp) ?_)
    exact Ev.step (fun k => by rw [spec_BindsValid.j2]) (Ev.pos rfl (Ev.now _))
  by_cases h1 : l[i].f2 < 1
  · refine ⟨fun h => absurd (h hi).1.2.2.1 (by omega), fun _ => pre _ ?_ hn⟩
    refine Ev.bind (g := fun _ => _) (Ev.some rfl) (Ev.pos (by rw [hR]; exact hsc) (Ev.pos (by rw [hR]; exact h1) ?_))
    exact Ev.step (fun k => by rw [spec_BindsValid.j2]) (Ev.pos rfl (Ev.now _))
  by_cases h2 : l[i].f2 > 999
  · refine ⟨fun h => absurd (h hi).1.2.2.2 (by omega), fun _ => pre _ ?_ hn⟩
    refine Ev.bind (g := fun _ => _) (Ev.some rfl) (Ev.pos (by rw [hR]; exact hsc) (Ev.neg (by rw [hR]; exact h1) ?_))
    rw [hR, decide_eq_true h2]
    exact Ev.step (fun k => by rw [spec_BindsValid.j2]) (Ev.pos rfl (Ev.now _))
  have hok : BdOk l[i] := ⟨(nmB_iff _).1 hn, pB_iff.1 hsc, by omega, by omega⟩
  have hat : BdAt l i ↔ ∀ q, q < i → ¬ sameB l[i] (bdAt l q) = true := by
    constructor
    · intro h q hq hs
      have h3 := (h hi).2
      rw [List.any_eq_false] at h3
      rw [bdAt_eq (by omega)] at hs
      exact h3 l[q] (List.mem_take_iff_getElem.2 ⟨q, by omega, rfl⟩) hs
    · intro h hi'
      refine ⟨hok, ?_⟩
      rw [List.any_eq_false]
      intro b hb he
      obtain ⟨j, hj, rfl⟩ := List.mem_take_iff_getElem.1 hb
      have := h j (by omega)
      rw [bdAt_eq (by omega)] at this
      exact this he
  have inner : ∀ r, Ev (fun k => spec_BindsValid.l0 k l ((i + 1 : Nat) : Int)) r → ((∀ q, q < i → ¬ sameB l[i] (bdAt l q) = true) → Ev (fun k => spec_BindsValid.l1 k l (i : Int) ((0 : Nat) : Int)) r) ∧ ((¬ ∀ q, q < i → ¬ sameB l[i] (bdAt l q) = true) → Ev (fun k => spec_BindsValid.l1 k l (i : Int) ((0 : Nat) : Int)) false) := by
    intro r hr
    refine ev_all (L := fun k q => spec_BindsValid.l1 k l (i : Int) (q : Int)) (fun q => ¬ sameB l[i] (bdAt l q) = true) i r false ?_ ?_ ?_
    · intro q hq hp r2 hr2
      have hql : q < l.length := by omega
      rw [bdAt_eq hql, sameB_iff] at hp
      refine Ev.step (fun k => by rw [spec_BindsValid.l1]) (Ev.pos (by omega) (Ev.pos (by omega) (Ev.pos (by omega) (Ev.pos h0 (Ev.pos hI ?_)))))
      by_cases he : l[q].f0.toList = l[i].f0.toList
      · refine Ev.pos (by rw [rdB hql, hR]; exact he) (Ev.bind (g := fun _ => _) (Ev.some rfl) (Ev.neg (by rw [rdB hql, hR, decide_eq_true_iff]; exact fun h => hp ⟨he, h⟩) ?_))
        rw [wr1 _ (by omega)]
        exact hr2
      · refine Ev.neg (by rw [rdB hql, hR]; exact he) ?_
        rw [wr1 _ (by omega)]
        exact hr2
    · intro q hq hp
      have hql : q < l.length := by omega
      rw [Classical.not_not, bdAt_eq hql, sameB_iff] at hp
      refine Ev.step (fun k => by rw [spec_BindsValid.l1]) (Ev.pos (by omega) (Ev.pos (by omega) (Ev.pos (by omega) (Ev.pos h0 (Ev.pos hI (Ev.pos (by rw [rdB hql, hR]; exact hp.1) ?_))))))
      exact Ev.bind (g := fun _ => _) (Ev.some rfl) (Ev.pos (by rw [rdB hql, hR, decide_eq_true_iff]; exact hp.2) (Ev.now _))
    · refine Ev.step (fun k => by rw [spec_BindsValid.l1]) (Ev.neg (by omega) ?_)
      rw [wr1 _ (by omega)]
      exact hr
  have post : ∀ r, Ev (fun k => spec_BindsValid.l1 k l (i : Int) ((0 : Nat) : Int)) r → Ev (fun k => spec_BindsValid.l0 k l (i : Int)) r := by
    intro r hr
    refine pre _ ?_ hn
    refine Ev.bind (g := fun _ => _) (Ev.some rfl) (Ev.pos (by rw [hR]; exact hsc) (Ev.neg (by rw [hR]; exact h1) ?_))
    rw [hR, decide_eq_false h2]
    refine Ev.step (fun k => by rw [spec_BindsValid.j2]) ?_
    simp only [Bool.false_eq_true, if_false]
    exact hr
  refine ⟨fun h r hr => post r ((inner r hr).1 (hat.1 h)), fun h => post false ?_⟩
  have h3 : ¬ ∀ q, q < i → ¬ sameB l[i] (bdAt l q) = true := fun k => h (hat.2 k)
  -- the loop ends ahead of the next row
  have hstop : Ev (fun k => spec_BindsValid.l1 k l (i : Int) ((0 : Nat) : Int)) false := by
    obtain ⟨q0, hq0, hs0, hmin⟩ : ∃ q, q < i ∧ sameB l[i] (bdAt l q) = true ∧ ∀ j, j < q → ¬ sameB l[i] (bdAt l j) = true := by
      have ex : ∃ q, q < i ∧ sameB l[i] (bdAt l q) = true := Classical.byContradiction fun hno => h3 (fun q hq hs => hno ⟨q, hq, hs⟩)
      have key : ∀ m, (∃ q, q < m ∧ q < i ∧ sameB l[i] (bdAt l q) = true) → ∃ q, q < i ∧ sameB l[i] (bdAt l q) = true ∧ ∀ j, j < q → ¬ sameB l[i] (bdAt l j) = true := by
        intro m
        induction m with
        | zero => rintro ⟨q, hq, _⟩; omega
        | succ m ih =>
          rintro ⟨q, hq, hqi, hs⟩
          by_cases hless : ∃ q, q < m ∧ q < i ∧ sameB l[i] (bdAt l q) = true
          · exact ih hless
          · exact ⟨q, hqi, hs, fun j hj hsj => hless ⟨j, by omega, by omega, hsj⟩⟩
      obtain ⟨q, hq, hs⟩ := ex
      exact key i ⟨q, hq, hq, hs⟩
    have hql : q0 < l.length := by omega
    refine (ev_all (L := fun k q => spec_BindsValid.l1 k l (i : Int) (q : Int)) (fun q => ¬ sameB l[i] (bdAt l q) = true) q0 false false ?_ ?_ ?_).1 hmin
    · intro q hq hp r2 hr2
      have hql : q < l.length := by omega
      rw [bdAt_eq hql, sameB_iff] at hp
      refine Ev.step (fun k => by rw [spec_BindsValid.l1]) (Ev.pos (by omega) (Ev.pos (by omega) (Ev.pos (by omega) (Ev.pos h0 (Ev.pos hI ?_)))))
      by_cases he : l[q].f0.toList = l[i].f0.toList
      · refine Ev.pos (by rw [rdB hql, hR]; exact he) (Ev.bind (g := fun _ => _) (Ev.some rfl) (Ev.neg (by rw [rdB hql, hR, decide_eq_true_iff]; exact fun h => hp ⟨he, h⟩) ?_))
        rw [wr1 _ (by omega)]
        exact hr2
      · refine Ev.neg (by rw [rdB hql, hR]; exact he) ?_
        rw [wr1 _ (by omega)]
        exact hr2
    · intro q hq hp
      exact absurd (hmin q hq) hp
    · rw [bdAt_eq hql, sameB_iff] at hs0
      refine Ev.step (fun k => by rw [spec_BindsValid.l1]) (Ev.pos (by omega) (Ev.pos (by omega) (Ev.pos (by omega) (Ev.pos h0 (Ev.pos hI (Ev.pos (by rw [rdB hql, hR]; exact hs0.1) ?_))))))
      exact Ev.bind (g := fun _ => _) (Ev.some rfl) (Ev.pos (by rw [rdB hql, hR, decide_eq_true_iff]; exact hs0.2) (Ev.now _))
  exact hstop
theorem ev_bindsValid {l : List Bd} (hl : SmB l) : Ev (fun k => spec_BindsValid.f k l) (pB (BdsOk l)) := by
  simp only [spec_BindsValid.f]
  have hend : ∀ r, r = decide (l.length ≤ 60) → (¬ (min l.length 61) < l.length ∨ ¬ (min l.length 61) ≤ 60) → Ev (fun k => spec_BindsValid.l0 k l ((min l.length 61 : Nat) : Int)) r := by
    rintro r rfl h
    have hv : some (decide ((l.length : Int) ≤ 60)) = some (decide (l.length ≤ 60)) := by
      congr 1
      exact Bool.eq_iff_iff.2 (by rw [decide_eq_true_iff, decide_eq_true_iff]; omega)
    by_cases hlt : min l.length 61 < l.length
    · refine Ev.step (fun k => by rw [spec_BindsValid.l0]) (Ev.pos (by omega) ?_)
      rw [decide_eq_false (by omega)]
      refine Ev.step (fun k => by rw [spec_BindsValid.j1]) (Ev.neg (by simp) ?_)
      exact Ev.some hv
    · refine Ev.step (fun k => by rw [spec_BindsValid.l0]) (Ev.neg (by omega) ?_)
      refine Ev.step (fun k => by rw [spec_BindsValid.j1]) (Ev.neg (by simp) ?_)
      exact Ev.some hv
  obtain ⟨hT, hF⟩ := ev_all (L := fun k i => spec_BindsValid.l0 k l (i : Int)) (fun i => BdAt l i) (min l.length 61) (decide (l.length ≤ 60)) false
    (fun i hi hp r hr => (bds_row hl (by omega) (by omega)).1 hp r hr) (fun i hi hp => (bds_row hl (by omega) (by omega)).2 hp) (hend _ rfl (by omega))
  by_cases hall : ∀ i, i < min l.length 61 → BdAt l i
  · have := hT hall
    rw [show pB (BdsOk l) = decide (l.length ≤ 60) from ?_]
    · exact this
    by_cases h60 : l.length ≤ 60
    · rw [decide_eq_true h60]
      refine pB_iff.2 ⟨h60, fun i => ?_⟩
      by_cases hi : i < l.length
      · exact hall i (by omega)
      · exact fun h => absurd h hi
    · rw [decide_eq_false h60]
      exact (pB_no (fun h => h60 h.1)).symm
  · rw [← pB_no (show ¬ BdsOk l from fun h => hall (fun i _ => h.2 i))]
    exact hF hall
theorem ev_l3Is {x : Fm} (hx : x.tot ≤ 1048576) : spec_l3Is.f x.f0 x.f1 x.f2 x.f3 x.f4 = some (pB (IsName x)) := by
  unfold spec_l3Is.f
  by_cases h : x.f0 = 1
  · rw [if_pos h, show spec_FormValid.f x.f0 x.f1 x.f2 x.f3 x.f4 = some (pB (FmOk x)) from by cases x; exact gIf_yes hx _]
    show some (pB (FmOk x)) = _
    congr 1
    by_cases hv : FmOk x
    · rw [pB_iff.2 hv, pB_iff.2 ⟨h, hv⟩]
    · rw [← pB_no hv, ← pB_no (fun k : IsName x => hv k.2)]
  · rw [if_neg h, ← pB_no (fun k : IsName x => h k.1)]
theorem ev_implFitting {l : List Bd} (hl : SmB l) (x : Fm) : Ev (fun k => impl_fitting.f k l x.f0 x.f1 x.f2 x.f3 x.f4) (fitL l x) := by
  simp only [impl_fitting.f]
  have h0 := hl.1
  obtain ⟨r, hp, hr⟩ := ev_loop (L := fun k (s : Int × List Int) => impl_fitting.l0 k s.2 l (l.length : Int) s.1 x.f0 x.f1 x.f2 x.f3 x.f4) (fun i s => s = ((i : Int), fitI l x i)) l.length (· = fitL l x) (by
    rintro i s hi rfl
    have hlen := fitI_len l x i
    refine ⟨((i + 1 : Nat), fitI l x (i + 1)), rfl, fun r hr => ?_⟩
    refine Ev.step (fun k => by rw [impl_fitting.l0]) (Ev.pos (by simpa using hi) (Ev.pos (by simp) (Ev.pos (by simpa using hi) ?_)))
    rw [fitI_next, bdAt_eq hi] at hr
    by_cases h1 : l[i].f0.toList = x.f1.toList
    · refine Ev.pos (by rw [rdB hi]; exact h1) (Ev.bind (g := fun _ => _) (Ev.some rfl) ?_)
      by_cases h2 : ∀ s, s ∈ l[i].f1 → s ∈ x.f3
      · refine Ev.pos (by rw [rdB hi, decide_eq_true_iff]; exact h2) (Ev.pos (by simp only; omega) ?_)
        rw [wr1 _ (by omega)]
        rw [if_pos (fitsB_iff.2 ⟨h1, h2⟩)] at hr
        exact hr
      · refine Ev.neg (by rw [rdB hi, decide_eq_true_iff]; exact h2) ?_
        rw [wr1 _ (by omega)]
        rw [if_neg (fun h => h2 (fitsB_iff.1 h).2), List.append_nil] at hr
        exact hr
    · refine Ev.neg (by rw [rdB hi]; exact h1) ?_
      rw [wr1 _ (by omega)]
      rw [if_neg (fun h => h1 (fitsB_iff.1 h).1), List.append_nil] at hr
      exact hr) (by
    rintro s rfl
    exact ⟨_, rfl, Ev.step (fun k => by rw [impl_fitting.l0]) (Ev.neg (by simp) (Ev.now _))⟩) (0, []) rfl
  subst hp
  exact hr
end
end Go.Proofs.Ytcbomlmlindjdaa
end
section
namespace Go.Proofs.Ytcbomlmlindjdaa
open Go.RowKit Go.Proofs.YtcbomlmlindjdaaW.PrintWords
set_option linter.unusedVariables false
set_option linter.unusedSimpArgs false
section
open Go.Proofs.Ytcbomlmlindjdaa.Q
theorem isName_pair {l : List Bd} {x : Fm} : pB (BdsOk l ∧ IsName x) = (pB (BdsOk l) && pB (IsName x)) := by
  by_cases h1 : BdsOk l
  · by_cases h2 : IsName x
    · rw [pB_iff.2 ⟨h1, h2⟩, pB_iff.2 h1, pB_iff.2 h2]; rfl
    · rw [← pB_no h2, ← pB_no (fun k : BdsOk l ∧ IsName x => h2 k.2), Bool.and_false]
  · rw [← pB_no h1, ← pB_no (fun k : BdsOk l ∧ IsName x => h1 k.1), Bool.false_and]
theorem bound_in {l : List Bd} {x : Fm} (h : (boundR l x).2 = 1) : ∃ j : Nat, j < l.length ∧ (boundR l x).1 = (j : Int) := by
  rcases boundR_cases l x with ⟨m, hm, _, he⟩ | ⟨_, he⟩
  · obtain ⟨i, hi, rfl, _⟩ := mem_fitL.1 hm
    exact ⟨i, hi, by rw [he]⟩
  · rw [he] at h
    by_cases hn : fitL l x = []
    · rw [if_pos hn] at h; exact absurd h (by decide)
    · rw [if_neg hn] at h; exact absurd h (by decide)
end
end Go.Proofs.Ytcbomlmlindjdaa
end
section
namespace Go.Proofs.Ytcbomlmlindjdaa
set_option linter.unusedVariables false
set_option linter.unusedSimpArgs false
theorem addBind_true {l r : List Bd} {x : Fm} {n : Int} (h : addBindR l x n = (r, true)) : BdsOk l ∧ IsName x ∧ BdsOk r ∧ r = l ++ [⟨x.f1, x.f3, n⟩] := by
  unfold addBindR at h
  split at h
  · rename_i h1
    split at h
    · rename_i h2
      injection h with a b
      subst a
      exact ⟨(pB_iff.1 h1).1, (pB_iff.1 h1).2, pB_iff.1 h2, rfl⟩
    · cases h
  · cases h
theorem addBind_false {l r : List Bd} {x : Fm} {n : Int} (h : addBindR l x n = (r, false)) : r = [] := by
  unfold addBindR at h
  split at h
  · split at h
    · cases h
    · injection h with a b; exact a.symm
  · injection h with a b; exact a.symm
theorem addBind_find {l r : List Bd} {x : Fm} {n : Int} (h : addBindR l x n = (r, true)) : findR r x = (n, 1) := by
  obtain ⟨h1, h2, h3, rfl⟩ := addBind_true h
  exact (findR_best h3 h2 (b := ⟨x.f1, x.f3, n⟩) ⟨by simp, fitsB_iff.2 ⟨rfl, fun s hs => hs⟩, fun c _ hf => (fitsB_iff.1 hf).2⟩).1
/-! References. -/
/-! Bindings that hide others; bindings that are taken away. -/
/-! More scopes. -/
end Go.Proofs.Ytcbomlmlindjdaa
end
section
namespace Go.Proofs.Ytcbomlmlindjdaa
open Go.RowKit Go.Proofs.YtcbomlmlindjdaaW.PrintWords
set_option linter.unusedVariables false
set_option linter.unusedSimpArgs false
section
open Go.Proofs.Ytcbomlmlindjdaa.Q
end
end Go.Proofs.Ytcbomlmlindjdaa
end
section
namespace Go.Proofs.Ytcbomlmlindjdaa
open Go.RowKit Go.Proofs.YtcbomlmlindjdaaW.PrintWords Go.Proofs.YtcbomlmlindjdaaW.PrintLast Go.Proofs.YtcbomlmlindjdaaW.PrintMore
set_option linter.unusedVariables false
set_option linter.unusedSimpArgs false
/-- Two ints are handed back. -/
def Ret2 (w : World) (p : Int × Int) (e : Ending) (w' : World) : Prop := e = .returned (.tuple #[.int .i64 p.1, .int .i64 p.2]) ∧ Below w.heap.size w w'
theorem any_not_best (l : List Bd) (f : List Int) (m : Int) : (f.any fun j => !subI l j m) = !bestL l f m := by
  unfold bestL bestI
  rw [List.take_length]
  induction f with
  | nil => rfl
  | cons a f ih => simp only [List.any_cons, List.all_cons, ih, Bool.not_and]
set_option maxHeartbeats 2000000 in
theorem bound1_any (l : List Bd) (A : Option Addr) (c : Nat) (i j : Nat) (hi : i < l.length) (hj : j < l.length) (g h : Nat) (w : World) (hr : kB.C w A l.length l) (hc : l.length ≤ c)
    (hg : w.heap[g]? = some (.cells #[.slice A l.length c] 23 (0, 0))) (hh : w.heap[h]? = some (.cells #[.int .i64 (i : Int)] 3 (0, 0))) :
    Calls Try.prog 81 #[.int .i64 (j : Int), .pointer (some ⟨g, 0, none⟩), .pointer (some ⟨h, 0, none⟩)] w (Ret w (.bool (!subI l (j : Int) (i : Int)))) := by
  obtain ⟨ad, J1, jc, e, a0, a1, a2, hkj⟩ := bd_at hr j hj
  obtain ⟨ad2, I1, ic, e2, b0, b1, b2, hki⟩ := bd_at hr i hi
  subst e
  obtain rfl : ad = ad2 := by injection e2
  have pg : w.cell? ⟨g, 0, none⟩ = some (.slice (some ad) l.length c) := (blk_cell hg 0).trans rfl
  have ph : w.cell? ⟨h, 0, none⟩ = some (.int .i64 (i : Int)) := (blk_cell hh 0).trans rfl
  have q1 : (0 : Int) ≤ (j : Int) := by omega
  have q2 : (j : Int) < (l.length : Int) := by omega
  have q3 : (0 : Int) ≤ (i : Int) := by omega
  have q4 : (i : Int) < (l.length : Int) := by omega
  rw [← bdAt_eq hj] at a1 hkj
  rw [← bdAt_eq hi] at b1 hki
  unfold subI
  rw [Int.toNat_natCast, Int.toNat_natCast]
  clear e2 hg hh a0 a2 b0 b2 hr
  generalize bdAt l j = bj at a1 hkj ⊢
  generalize bdAt l i = bi at b1 hki ⊢
  have HC := Lib.hid (fun W hb => implWithin_any bj.f1 bi.f1 J1 I1 jc ic W (Kd.C_below hkj.g1 hb) hkj.l1 (Kd.C_below hki.g1 hb) hki.l1)
  generalize decide (∀ x, x ∈ bj.f1 → x ∈ bi.f1) = r at HC ⊢
  clear hkj hki
  go_enter Try.func81, Try.ntmps81
  go_wp2_with fail
  go_region_held3 (fun W => W.cell? ⟨g, 0, none⟩ = some (.slice (some ad) l.length c) ∧ W.cell? ⟨h, 0, none⟩ = some (.int .i64 (i : Int)) ∧ W.cell? ⟨(ad.add (j * 3)).block, (ad.add (j * 3)).off + 1, none⟩ = some (.slice J1 bj.f1.length jc) ∧ W.cell? ⟨(ad.add (i * 3)).block, (ad.add (i * 3)).off + 1, none⟩ = some (.slice I1 bi.f1.length ic)) (first | go_keep | exact ⟨ck0 (below_step (Below.refl _ _).drew hb1) pg, ck0 (below_step (Below.refl _ _).drew hb1) ph, ck0 (below_step (Below.refl _ _).drew hb1) a1, ck0 (below_step (Below.refl _ _).drew hb1) b1⟩) ((go_at_call 26; refine (HC.out _ (Below.refl _ _).drew).mono ?_; rintro e w1 ⟨rfl, hb1⟩))
  have HB := Lib.hid (below_step (Below.refl _ _).drew hb1)
  clear hb1
  go_wp2_with fail
  go_ret
  exact ⟨rfl, HB.out⟩
set_option maxHeartbeats 4000000 in
set_option maxRecDepth 100000 in
theorem bound_any (l : List Bd) (A : Option Addr) (c : Nat) (x : Fm) (A3 : Option Addr) (c3 : Nat) (A4 : Option Addr) (c4 : Nat) (w : World) (hr : kB.C w A l.length l) (hc : l.length ≤ c) (hx : FmIn w x A3 c3 A4 c4) (hs : SmB l) :
    Calls Try.prog 53 #[.slice A l.length c, .agg #[.int .i64 x.f0, .string x.f1, .int .i64 x.f2, .slice A3 x.f3.length c3, .slice A4 x.f4.length c4]] w (Ret2 w (boundR l x)) := by
  have eg : ∀ args w, (callFunc 81 args).run Try.prog w = .ok (.enter 81 args) w := enters_of Try.func81 (by kernel_rfl) rfl
  obtain ⟨k, hk⟩ := (ev_implFitting hs x).rounds
  have HF := Lib.hid (fun W hb => Q.impl_fitting.calls k A c l x.f0 x.f1 x.f2 A3 c3 x.f3 A4 c4 x.f4 (fitL l x) W (Kd.C_below hr hb) hc (Kd.C_below hx.g3 hb) hx.l3 (Kd.C_below hx.g4 hb) hx.l4 hk)
  have hfm : ∀ m, m ∈ fitL l x → ∃ j : Nat, j < l.length ∧ m = (j : Int) := fun m hm => by
    obtain ⟨i, hi, he, _⟩ := mem_fitL.1 hm
    exact ⟨i, hi, he⟩
  have hlen : (fitL l x).length ≤ 2000000 := Nat.le_trans (fitI_len l x l.length) hs.1
  obtain ⟨f, hfe⟩ : ∃ f, f = fitL l x := ⟨_, rfl⟩
  have hB : ∀ i (hi : i < f.length), bestL l f f[i] = true → (∀ j (hj : j < i), bestL l f (f[j]'(by omega)) = false) → boundR l x = (f[i], 1) := by subst hfe; exact fun i hi h1 h2 => boundR_some hi h1 h2
  have hN : (∀ j (hj : j < f.length), bestL l f f[j] = false) → boundR l x = (0, if f = [] then 0 else 2) := by subst hfe; exact boundR_none
  rw [← hfe] at hfm hlen HF
  clear hfe hk hs
  generalize boundR l x = r at hB hN ⊢
  have HB := Lib.hid hB
  have HN := Lib.hid hN
  have HM := Lib.hid hfm
  have HR := Lib.hid (fun W (hb : Below w.heap.size w W) => Kd.C_below hr hb)
  have EG := Lib.hid eg
  clear hB hN hfm hr hx eg
  go_enter Try.func53, Try.ntmps53
  have kk := two_new (w := w) (O1 := .cells #[.slice A l.length c] 23) (O2 := .cells #[.int .i64 x.f0, .string x.f1, .int .i64 x.f2, .slice A3 x.f3.length c3, .slice A4 x.f4.length c4] 30) (Below.refl _ _)
  obtain ⟨k0, k1, b0⟩ := kk
  obtain ⟨q0, q1, q2, q3, q4⟩ := fm_cells k1
  have q5 := (blk_cell k0 0).trans rfl
  have K0 := Lib.hid k0
  have B0 := Lib.hid b0
  clear k0 k1 b0
  go_wp2_with fail
  refine (HF.out _ B0.out).mono ?_
  rintro e w1 ⟨v, rfl, hR, hb⟩
  obtain ⟨F, fc, rfl, hfc, hF⟩ := Kd.R_reads hR
  have K1 := Lib.hid (blk_below K0.out hb)
  have B1 := Lib.hid (below_step B0.out hb)
  have IF := Lib.hid hF
  clear hR hb hF q0 q1 q2 q3 q4 q5 HF K0 B0
  by_cases hnil : f = []
  · have t1 : ((f.length : Int) == 0) = true := by simp [hnil]
    have t2 : (f.length == 0) = true := by simp [hnil]
    have hr := HN.out (fun j hj => absurd hj (by simp [hnil]))
    rw [if_pos hnil] at hr
    have HR2 := Lib.hid hr
    clear hr hnil
    go_wp2_with fail
    refine bodyPost_ret (v := .tuple #[.int .i64 0, .int .i64 0]) (by simp [results, Try.results53, go_sem]) rfl ?_
    rw [HR2.out]
    exact ⟨rfl, B1.out⟩
  have hpos := List.length_pos_iff.2 hnil
  have t1 : ((f.length : Int) == 0) = false := beq_eq_false_iff_ne.mpr (by omega)
  have t2 : (f.length == 0) = false := beq_eq_false_iff_ne.mpr (by omega)
  have HNN := Lib.hid hnil
  clear hnil
  go_wp2_with fail
  go_loopg [8, 17] f.length (fun kq v8 v17 w' => ∃ i : Nat, i ≤ f.length ∧ f.length - i ≤ kq ∧ v17 = .int .i64 i ∧ Aside0 (∀ j (h : j < f.length), j < i → bestL l f f[j] = false) ∧ Aside0 (Below w1.heap.size w1 w'))
  case atStart => exact ⟨0, Nat.zero_le _, by omega, rfl, ⟨fun j _ h => absurd h (by omega)⟩, ⟨Below.refl _ _⟩⟩
  case round =>
    obtain ⟨i, hi, hg, rfl, HNO, HW⟩ := hrel
    by_cases hlt : i < f.length
    · obtain ⟨ad, e, hcell⟩ := int_at (Kd.C_below IF.out HW.out) i hlt
      subst e
      obtain ⟨ji, hji, hei⟩ := HM.out _ (List.getElem_mem hlt)
      have bn := below_new wr (.cells #[.int .i64 (ji : Int)] 3)
      have kn := blk_new wr (.cells #[.int .i64 (ji : Int)] 3)
      have HC := Lib.hid (containsFuncI_any f (fun m => !subI l m (ji : Int)) 81 #[.pointer (some ⟨w.heap.size, 0, none⟩), .pointer (some ⟨wr.heap.size, 0, none⟩)] EG.out (some ad) fc (wr.alloc (.cells #[.int .i64 (ji : Int)] 3)) (Kd.C_below (Kd.C_below IF.out HW.out) bn) hfc
        (fun m hm W hb => by
          obtain ⟨jm, hjm, rfl⟩ := HM.out m hm
          exact bound1_any l A c ji jm hji hjm w.heap.size wr.heap.size W (HR.out W (below_step (below_step (below_step B1.out HW.out) bn) hb)) hc (blk_below (blk_below (blk_below K1.out HW.out) bn) hb) (blk_below kn hb)))
      rw [any_not_best, ← hei] at HC
      have q8 := (blk_cell kn 0).trans rfl
      have HBN := Lib.hid bn
      have HKN := Lib.hid kn
      rw [hei] at hcell
      have p1 : (0 : Int) ≤ (i : Int) := by omega
      have p2 : (i : Int) < (f.length : Int) := by omega
      rcases hbest : bestL l f f[i] with _ | _
      · rw [hbest] at HC
        have HNX := Lib.hid hbest
        rw [hei] at HC
        clear hbest bn kn
        go_wp2_with fail
        refine HC.out.mono ?_
        rintro e w3 ⟨rfl, hb3⟩
        have HB3 := Lib.hid (below_step HW.out (below_step HBN.out hb3))
        clear hb3 q8
        go_wp2_with fail
        go_roundg (f.length - (i + 1))
        case measure => omega
        case rel =>
          refine ⟨i + 1, by omega, Nat.le_refl _, by go_num, ⟨fun j hj hlt2 => ?_⟩, ⟨HB3.out⟩⟩
          by_cases e : j = i
          · subst e; exact HNX.out
          · exact HNO.out j hj (by omega)
      · rw [hbest] at HC
        have HRR := Lib.hid (HB.out i hlt hbest (fun j hj => HNO.out j _ hj))
        rw [hei] at HC HRR
        clear hbest bn kn
        go_wp2_with fail
        refine HC.out.mono ?_
        rintro e w3 ⟨rfl, hb3⟩
        have q9 := (blk_cell (blk_below HKN.out hb3) 0).trans rfl
        have HB3 := Lib.hid (below_step B1.out (below_step HW.out (below_step HBN.out hb3)))
        clear hb3 q8
        go_wp2_with fail
        refine bodyPost_ret (v := .tuple #[.int .i64 (ji : Int), .int .i64 1]) (by simp [results, Try.results53, go_sem]) rfl ?_
        rw [HRR.out]
        exact ⟨rfl, HB3.out⟩
    · obtain rfl : i = f.length := by omega
      have hr := HN.out (fun j hj => HNO.out j hj hj)
      rw [if_neg HNN.out] at hr
      have HR2 := Lib.hid hr
      clear hr
      go_wp2_with fail
      refine bodyPost_ret (v := .tuple #[.int .i64 0, .int .i64 2]) (by simp [results, Try.results53, go_sem]) rfl ?_
      rw [HR2.out]
      exact ⟨rfl, below_step B1.out HW.out⟩
end Go.Proofs.Ytcbomlmlindjdaa
end
section
namespace Go.Proofs.Ytcbomlmlindjdaa
open Go.RowKit Go.Proofs.YtcbomlmlindjdaaW.PrintWords Go.Proofs.YtcbomlmlindjdaaW.PrintLast Go.Proofs.YtcbomlmlindjdaaW.PrintMore
set_option linter.unusedVariables false
set_option linter.unusedSimpArgs false
theorem Ret2.open {w : World} {a b : Int} {e : Ending} {w' : World} (h : Ret2 w (a, b) e w') : e = .returned (.tuple #[.int .i64 a, .int .i64 b]) ∧ Below w.heap.size w w' := h
set_option maxHeartbeats 4000000 in
set_option maxRecDepth 100000 in
theorem implFind_any (l : List Bd) (A : Option Addr) (c : Nat) (x : Fm) (A3 : Option Addr) (c3 : Nat) (A4 : Option Addr) (c4 : Nat) (w : World) (hr : kB.C w A l.length l) (hc : l.length ≤ c) (hx : FmIn w x A3 c3 A4 c4) (hs : SmB l) (ht : x.tot ≤ 1048576) :
    Calls Try.prog 19 #[.slice A l.length c, .agg #[.int .i64 x.f0, .string x.f1, .int .i64 x.f2, .slice A3 x.f3.length c3, .slice A4 x.f4.length c4]] w (Ret2 w (findR l x)) := by
  have hout : ∀ h : pB (BdsOk l) = false ∨ pB (IsName x) = false, findR l x = (0, 0) := fun h => findR_out (fun k => by
    rcases h with h | h
    · exact pB_false h k.1
    · exact pB_false h k.2)
  have hin : pB (BdsOk l) = true → pB (IsName x) = true → findR l x = (if (boundR l x).2 = 1 then ((bdAt l (boundR l x).1.toNat).f2, 1) else (0, (boundR l x).2)) := fun h1 h2 => by
    unfold findR
    rw [if_pos (pB_iff.2 ⟨pB_iff.1 h1, pB_iff.1 h2⟩)]
  have hbi : (boundR l x).2 = 1 → ∃ j : Nat, j < l.length ∧ (boundR l x).1 = (j : Int) := bound_in
  have HO := Lib.hid hout
  have HIN := Lib.hid hin
  have HBI := Lib.hid hbi
  have HR := Lib.hid (fun W (hb : Below w.heap.size w W) => Kd.C_below hr hb)
  have HX := Lib.hid hx
  have HS := Lib.hid hs
  clear hout hin hbi hr hx hs
  generalize findR l x = r at HO HIN ⊢
  go_enter Try.func19, Try.ntmps19
  go_wp2_with fail
  refine (implBinds_any l A c _ (HR.out _ (below_new _ _)) hc (fun b hb => by have := (HS.out.2 b hb).1; omega)).mono ?_
  rintro e w1 ⟨rfl, hb⟩
  obtain ⟨k0, b1⟩ := one_new hb
  have K0 := Lib.hid k0
  have B1 := Lib.hid b1
  clear hb k0 b1
  rcases hv : pB (BdsOk l) with _ | _
  · have HE := Lib.hid (HO.out (.inl hv))
    clear hv
    go_wp2_with fail
    refine bodyPost_ret (v := .tuple #[.int .i64 0, .int .i64 0]) (by simp [results, Try.results19, go_sem]) rfl ?_
    rw [HE.out]
    exact ⟨rfl, B1.out⟩
  · have HV := Lib.hid hv
    clear hv
    obtain ⟨p0, p1, p2, p3, p4⟩ := fm_cells K0.out
    go_wp2_with fail
    clear p0 p1 p2 p3 p4
    refine (isName_any x A3 c3 A4 c4 w1 (HX.out.below B1.out) ht).mono ?_
    rintro e w2 ⟨rfl, hb⟩
    have K1 := Lib.hid (blk_below K0.out hb)
    have B2 := Lib.hid (below_step B1.out hb)
    clear hb
    rcases hn : pB (IsName x) with _ | _
    · have HE := Lib.hid (HO.out (.inr hn))
      clear hn
      go_wp2_with fail
      refine bodyPost_ret (v := .tuple #[.int .i64 0, .int .i64 0]) (by simp [results, Try.results19, go_sem]) rfl ?_
      rw [HE.out]
      exact ⟨rfl, B2.out⟩
    · have HE := Lib.hid (HIN.out HV.out hn)
      clear hn
      obtain ⟨p0, p1, p2, p3, p4⟩ := fm_cells K1.out
      go_wp2_with fail
      clear p0 p1 p2 p3 p4
      have HBD := Lib.hid (bound_any l A c x A3 c3 A4 c4 w2 (HR.out _ B2.out) hc (HX.out.below B2.out) HS.out)
      rcases hbr : boundR l x with ⟨mm, en⟩
      rw [hbr] at HBD HE HBI
      clear hbr
      refine HBD.out.mono ?_
      intro e w3 hret
      obtain ⟨rfl, hb⟩ := hret.open
      have B3 := Lib.hid (below_step B2.out hb)
      clear hb HO HIN hret HBD
      by_cases h1 : en = 1
      · obtain ⟨j, hj, hmj⟩ := HBI.out h1
        simp only at hmj
        subst hmj h1
        obtain ⟨ad, J1, jc, e, a0, a1, a2, _⟩ := bd_at (HR.out _ B3.out) j hj
        subst e
        have he := HE.out
        simp only at he
        rw [if_pos (by trivial), Int.toNat_natCast, bdAt_eq hj] at he
        have HF := Lib.hid he
        have q1 : (0 : Int) ≤ (j : Int) := by omega
        have q2 : (j : Int) < (l.length : Int) := by omega
        clear he a0 a1
        go_wp2_with fail
        refine bodyPost_ret (v := .tuple #[.int .i64 l[j].f2, .int .i64 1]) (by simp [results, Try.results19, go_sem]) rfl ?_
        rw [HF.out]
        exact ⟨rfl, B3.out⟩
      · have t1 : (en != 1) = true := by simpa using h1
        have he := HE.out
        simp only at he
        rw [if_neg h1] at he
        have HF := Lib.hid he
        clear he h1
        go_wp2_with fail
        refine bodyPost_ret (v := .tuple #[.int .i64 0, .int .i64 en]) (by simp [results, Try.results19, go_sem]) rfl ?_
        rw [HF.out]
        exact ⟨rfl, B3.out⟩
end Go.Proofs.Ytcbomlmlindjdaa
end
section
namespace Go.Proofs.Ytcbomlmlindjdaa
open Go.RowKit Go.Proofs.YtcbomlmlindjdaaW.PrintWords Go.Proofs.YtcbomlmlindjdaaW.PrintLast Go.Proofs.YtcbomlmlindjdaaW.PrintMore
set_option linter.unusedVariables false
set_option linter.unusedSimpArgs false
end Go.Proofs.Ytcbomlmlindjdaa
end
section
namespace Go.Proofs.Ytcbomlmlindjdaa
open Go.RowKit Go.Proofs.YtcbomlmlindjdaaW.PrintWords Go.Proofs.YtcbomlmlindjdaaW.PrintLast Go.Proofs.YtcbomlmlindjdaaW.PrintMore
set_option linter.unusedVariables false
set_option linter.unusedSimpArgs false
section
open Go.Proofs.Ytcbomlmlindjdaa.Q
end
theorem Ret2.b {w : World} {p : Int × Int} {a b : Int} (hp : p = (a, b)) {e : Ending} {w' : World} (h : Ret2 w p e w') : e = .returned (.tuple #[.int .i64 a, .int .i64 b]) ∧ Below w.heap.size w w' := by subst hp; exact h
end Go.Proofs.Ytcbomlmlindjdaa
end
section
namespace Go.Proofs.Ytcbomlmlindjdaa
open Go.RowKit Go.Proofs.YtcbomlmlindjdaaW.PrintWords Go.Proofs.YtcbomlmlindjdaaW.PrintLast Go.Proofs.YtcbomlmlindjdaaW.PrintMore
set_option linter.unusedVariables false
set_option linter.unusedSimpArgs false
def BdL (w : World) : List Bd → List Value → List Nat → Prop
  | [], inner, fp => inner = [] ∧ fp = []
  | b :: l, inner, fp => ∃ v1 rest fs, inner = [.string b.f0, v1, .int .i64 b.f2] ++ rest ∧ fp = obs v1 ++ fs ∧ w.ownsRow 0 3 1 v1 b.f1.length (encI b.f1) ∧ BdL w l rest fs
theorem BdL.len {w : World} : ∀ {l : List Bd} {inner : List Value} {fp : List Nat}, BdL w l inner fp → inner.length = l.length * 3
  | [], inner, fp, h => by rw [h.1]; rfl
  | b :: l, inner, fp, h => by
    obtain ⟨v1, rest, fs, rfl, rfl, _, hs⟩ := h
    have := BdL.len hs
    simp [this]; omega
theorem BdL.append {w : World} : ∀ {a b : List Bd} {ia ib : List Value} {fa fb : List Nat}, BdL w a ia fa → BdL w b ib fb → BdL w (a ++ b) (ia ++ ib) (fa ++ fb)
  | [], b, ia, ib, fa, fb, ha, hb => by obtain ⟨rfl, rfl⟩ := ha; exact hb
  | x :: a, b, ia, ib, fa, fb, ha, hb => by
    obtain ⟨v1, rest, fs, rfl, rfl, h1, hs⟩ := ha
    exact ⟨v1, rest ++ ib, fs ++ fb, by rw [List.append_assoc], by rw [List.append_assoc], h1, BdL.append hs hb⟩
theorem BdL.one {w : World} {b : Bd} {v1 : Value} (h : w.ownsRow 0 3 1 v1 b.f1.length (encI b.f1)) : BdL w [b] [.string b.f0, v1, .int .i64 b.f2] (obs v1) :=
  ⟨v1, [], [], rfl, by simp, h, rfl, rfl⟩
theorem BdL.move {w w1 : World} : ∀ {l : List Bd} {inner : List Value} {fp : List Nat}, BdL w l inner fp → (∀ b, b ∈ fp → w1.heap[b]? = w.heap[b]?) → BdL w1 l inner fp
  | [], inner, fp, h, _ => h
  | b :: l, inner, fp, h, hm => by
    obtain ⟨v1, rest, fs, rfl, rfl, h1, hs⟩ := h
    exact ⟨v1, rest, fs, rfl, rfl, own_move h1 (fun k hk => hm k (List.mem_append_left _ (obs_mem.2 hk))), BdL.move hs (fun k hk => hm k (List.mem_append_right _ hk))⟩
theorem BdL.lt {w : World} : ∀ {l : List Bd} {inner : List Value} {fp : List Nat}, BdL w l inner fp → ∀ b, b ∈ fp → b < w.heap.size
  | [], inner, fp, h, b, hb => by rw [h.2] at hb; cases hb
  | x :: l, inner, fp, h, b, hb => by
    obtain ⟨v1, rest, fs, rfl, rfl, h1, hs⟩ := h
    rcases List.mem_append.1 hb with q | q
    · exact own_lt h1 b (obs_mem.1 q)
    · exact BdL.lt hs b q
theorem BdL.later {w w1 : World} {l : List Bd} {inner : List Value} {fp : List Nat} (h : BdL w l inner fp) (hb : Below w.heap.size w w1) : BdL w1 l inner fp := h.move (fun b hb2 => hb.block b (h.lt b hb2))
abbrev set3 (w : World) (g o : Nat) (b0 b1 b2 : Value) : World := ((w.setCell ⟨g, o, none⟩ b0).setCell ⟨g, o + 1, none⟩ b1).setCell ⟨g, o + 2, none⟩ b2
theorem row_put3 {w : World} {e g n cap i : Nat} {inner rest : List Value} {a0 a1 a2 : Value} (h : w.ownsRow 0 e 3 (.slice (some ⟨g, 0, none⟩) n cap) n (inner ++ ([a0, a1, a2] ++ rest))) (hl : inner.length = i * 3) :
    (w.cell? ⟨g, i * 3, none⟩ = some a0 ∧ w.cell? ⟨g, i * 3 + 1, none⟩ = some a1 ∧ w.cell? ⟨g, i * 3 + 2, none⟩ = some a2) ∧
    (∀ j, w.frozen? ⟨g, j, none⟩ = false) ∧
    ∀ b0 b1 b2, (set3 w g (i * 3) b0 b1 b2).ownsRow 0 e 3 (.slice (some ⟨g, 0, none⟩) n cap) n (inner ++ ([b0, b1, b2] ++ rest)) := by
  have hn : inner.length + 3 + rest.length = n * 3 := by have := h.1; simp at this; omega
  have hc : ∀ j, j < 3 → w.cell? ⟨g, i * 3 + j, none⟩ = ([a0, a1, a2] ++ rest)[j]? := by
    intro j hj
    rw [World.ownsRow.cellAt h _ (by omega), List.getElem?_append_right (by omega)]
    congr 1
    omega
  refine ⟨⟨hc 0 (by omega), hc 1 (by omega), hc 2 (by omega)⟩, fun j => World.ownsRow.frozenAt h j, fun b0 b1 b2 => ?_⟩
  have s0 := (World.ownsRow.stored h (i * 3) b0).1
  have s1 := (World.ownsRow.stored s0 (i * 3 + 1) b1).1
  have s2 := (World.ownsRow.stored s1 (i * 3 + 2) b2).1
  have e : ((((inner ++ ([a0, a1, a2] ++ rest)).set (i * 3) b0).set (i * 3 + 1) b1).set (i * 3 + 2) b2) = inner ++ ([b0, b1, b2] ++ rest) := by
    rw [← hl]
    simp [List.set_append]
  rw [e] at s2
  exact s2
/-- The list at place i: its row, and how it is put together again. -/
theorem BdL.at_ {w : World} : ∀ {m : List Bd} {inner : List Value} {fp : List Nat}, BdL w m inner fp → ∀ (i : Nat) (h : i < m.length), ∃ ia v1 ib fa fb, inner = ia ++ ([.string m[i].f0, v1, .int .i64 m[i].f2] ++ ib) ∧ fp = fa ++ (obs v1 ++ fb) ∧ ia.length = i * 3 ∧ w.ownsRow 0 3 1 v1 m[i].f1.length (encI m[i].f1) ∧
    ∀ (w1 : World) (b : Bd), (∀ k, k ∈ fa ++ fb → w1.heap[k]? = w.heap[k]?) → w1.ownsRow 0 3 1 v1 b.f1.length (encI b.f1) → BdL w1 (m.set i b) (ia ++ ([.string b.f0, v1, .int .i64 b.f2] ++ ib)) fp
  | [], inner, fp, h, i, hi => absurd hi (Nat.not_lt_zero _)
  | x :: m, inner, fp, h, 0, hi => by
    obtain ⟨v1, rest, fs, rfl, rfl, h1, hs⟩ := h
    refine ⟨[], v1, rest, [], fs, rfl, rfl, rfl, h1, fun w1 b hm hb => ?_⟩
    exact ⟨v1, rest, fs, rfl, rfl, hb, hs.move (fun k hk => hm k (by simpa using hk))⟩
  | x :: m, inner, fp, h, i + 1, hi => by
    obtain ⟨v1, rest, fs, rfl, rfl, h1, hs⟩ := h
    obtain ⟨ia, v2, ib, fa, fb, rfl, rfl, hl, h2, hput⟩ := BdL.at_ hs i (by simpa using hi)
    refine ⟨[.string x.f0, v1, .int .i64 x.f2] ++ ia, v2, ib, obs v1 ++ fa, fb, by simp, by simp, by simp [hl]; omega, by simpa using h2, fun w1 b hm hb => ?_⟩
    refine ⟨v1, ia ++ ([.string b.f0, v2, .int .i64 b.f2] ++ ib), fa ++ (obs v2 ++ fb), by simp, by simp, own_move h1 (fun k hk => hm k (by simp [obs_mem, hk])), ?_⟩
    exact hput w1 b (fun k hk => hm k (by rcases List.mem_append.1 hk with q | q <;> simp [q])) hb
theorem row_at3 {w : World} {e g n cap i : Nat} {inner rest : List Value} {a0 a1 a2 : Value} (h : w.ownsRow 0 e 3 (.slice (some ⟨g, 0, none⟩) n cap) n (inner ++ ([a0, a1, a2] ++ rest))) (hl : inner.length = i * 3) :
    (∀ b, (w.setCell ⟨g, i * 3, none⟩ b).ownsRow 0 e 3 (.slice (some ⟨g, 0, none⟩) n cap) n (inner ++ ([b, a1, a2] ++ rest))) ∧ (∀ b, (w.setCell ⟨g, i * 3 + 2, none⟩ b).ownsRow 0 e 3 (.slice (some ⟨g, 0, none⟩) n cap) n (inner ++ ([a0, a1, b] ++ rest))) := by
  refine ⟨fun b => ?_, fun b => ?_⟩
  · have s0 := (World.ownsRow.stored h (i * 3) b).1
    have e : (inner ++ ([a0, a1, a2] ++ rest)).set (i * 3) b = inner ++ ([b, a1, a2] ++ rest) := by rw [← hl]; simp [List.set_append]
    rwa [e] at s0
  · have s0 := (World.ownsRow.stored h (i * 3 + 2) b).1
    have e : (inner ++ ([a0, a1, a2] ++ rest)).set (i * 3 + 2) b = inner ++ ([a0, a1, b] ++ rest) := by rw [← hl]; simp [List.set_append]
    rwa [e] at s0
theorem BdL.at2 {w : World} : ∀ {m : List Bd} {inner : List Value} {fp : List Nat}, BdL w m inner fp → ∀ (i : Nat) (h : i < m.length), ∃ ia v1 ib fa fb, inner = ia ++ ([.string m[i].f0, v1, .int .i64 m[i].f2] ++ ib) ∧ fp = fa ++ (obs v1 ++ fb) ∧ ia.length = i * 3 ∧ w.ownsRow 0 3 1 v1 m[i].f1.length (encI m[i].f1) ∧
    ∀ (w1 : World) (b : Bd) (u : Value), (∀ k, k ∈ fa ++ fb → w1.heap[k]? = w.heap[k]?) → w1.ownsRow 0 3 1 u b.f1.length (encI b.f1) → BdL w1 (m.set i b) (ia ++ ([.string b.f0, u, .int .i64 b.f2] ++ ib)) (fa ++ (obs u ++ fb))
  | [], inner, fp, h, i, hi => absurd hi (Nat.not_lt_zero _)
  | x :: m, inner, fp, h, 0, hi => by
    obtain ⟨v1, rest, fs, rfl, rfl, h1, hs⟩ := h
    refine ⟨[], v1, rest, [], fs, rfl, rfl, rfl, h1, fun w1 b u hm hb => ?_⟩
    exact ⟨u, rest, fs, rfl, rfl, hb, hs.move (fun k hk => hm k (by simpa using hk))⟩
  | x :: m, inner, fp, h, i + 1, hi => by
    obtain ⟨v1, rest, fs, rfl, rfl, h1, hs⟩ := h
    obtain ⟨ia, v2, ib, fa, fb, rfl, rfl, hl, h2, hput⟩ := BdL.at2 hs i (by simpa using hi)
    refine ⟨[.string x.f0, v1, .int .i64 x.f2] ++ ia, v2, ib, obs v1 ++ fa, fb, by simp, by simp, by simp [hl]; omega, by simpa using h2, fun w1 b u hm hb => ?_⟩
    refine ⟨v1, ia ++ ([.string b.f0, u, .int .i64 b.f2] ++ ib), fa ++ (obs u ++ fb), by simp, by simp, own_move h1 (fun k hk => hm k (by simp [obs_mem, hk])), ?_⟩
    exact hput w1 b u (fun k hk => hm k (by rcases List.mem_append.1 hk with q | q <;> simp [q])) hb
theorem row_at3m {w : World} {e g n cap i : Nat} {inner rest : List Value} {a0 a1 a2 : Value} (h : w.ownsRow 0 e 3 (.slice (some ⟨g, 0, none⟩) n cap) n (inner ++ ([a0, a1, a2] ++ rest))) (hl : inner.length = i * 3) :
    ∀ b, (w.setCell ⟨g, i * 3 + 1, none⟩ b).ownsRow 0 e 3 (.slice (some ⟨g, 0, none⟩) n cap) n (inner ++ ([a0, b, a2] ++ rest)) := by
  intro b
  have s0 := (World.ownsRow.stored h (i * 3 + 1) b).1
  have e : (inner ++ ([a0, a1, a2] ++ rest)).set (i * 3 + 1) b = inner ++ ([a0, b, a2] ++ rest) := by rw [← hl]; simp [List.set_append]
  rwa [e] at s0
/-- A list of bindings in new memory, from block B on. -/
def NewB (B : Nat) (w' : World) (l : List Bd) (v : Value) : Prop := ∃ inner fp, w'.ownsRow 0 36 3 v l.length inner ∧ BdL w' l inner fp ∧ (obs v ++ fp).Nodup ∧ ∀ b, b ∈ obs v ++ fp → B ≤ b
theorem NewB.lt {B : Nat} {w : World} {l : List Bd} {v : Value} {inner : List Value} {fp : List Nat} (ho : w.ownsRow 0 36 3 v l.length inner) (ht : BdL w l inner fp) : ∀ b, b ∈ obs v ++ fp → b < w.heap.size := fun b hb => by
  rcases List.mem_append.1 hb with q | q
  · exact own_lt ho b (obs_mem.1 q)
  · exact ht.lt b q
theorem NewB.move {B : Nat} {w W : World} {l : List Bd} {v : Value} (h : NewB B w l v) (hm : ∀ b, B ≤ b → b < w.heap.size → W.heap[b]? = w.heap[b]?) : NewB B W l v := by
  obtain ⟨inner, fp, ho, ht, hn, hg⟩ := h
  have hlt := NewB.lt (B := B) ho ht
  exact ⟨inner, fp, own_move ho (fun k hk => hm k (hg k (List.mem_append_left _ (obs_mem.2 hk))) (hlt k (List.mem_append_left _ (obs_mem.2 hk)))), ht.move (fun k hk => hm k (hg k (List.mem_append_right _ hk)) (hlt k (List.mem_append_right _ hk))), hn, hg⟩
/-- The list's binding i: its cells; what the stores into it leave. -/
structure BdAtI (B : Nat) (w : World) (l : List Bd) (v : Value) (i : Nat) (x : Bd) (gr : Nat) (C : Option Addr) (d : Nat) : Prop where
  ge : B ≤ gr
  lt : gr < w.heap.size
  c0 : w.cell? ⟨gr, i * 3, none⟩ = some (.string x.f0)
  c1 : w.cell? ⟨gr, i * 3 + 1, none⟩ = some (.slice C x.f1.length d)
  c2 : w.cell? ⟨gr, i * 3 + 2, none⟩ = some (.int .i64 x.f2)
  fz : ∀ j, w.frozen? ⟨gr, j, none⟩ = false
  row : w.ownsRow B 3 1 (.slice C x.f1.length d) x.f1.length (encI x.f1)
  ne : ∀ b, (Value.slice C x.f1.length d).ownBlock = some b → b ≠ gr
  id_ : ∀ n, NewB B (w.setCell ⟨gr, i * 3 + 2, none⟩ (.int .i64 n)) (l.set i ⟨x.f0, x.f1, n⟩) v
  sc_ : ∀ (w1 : World) (u : Value) (sc : List Int), w.grownBy w1 (Value.slice C x.f1.length d).ownBlock → w1.ownsRow 0 3 1 u sc.length (encI sc) → (u.ownBlock = (Value.slice C x.f1.length d).ownBlock ∨ ∃ b, u.ownBlock = some b ∧ w.heap.size ≤ b) → w1.cell? ⟨gr, i * 3 + 1, none⟩ = some (.slice C x.f1.length d) ∧ w1.frozen? ⟨gr, i * 3 + 1, none⟩ = false ∧ NewB B (w1.setCell ⟨gr, i * 3 + 1, none⟩ u) (l.set i ⟨x.f0, sc, x.f2⟩) v
theorem NewB.atI {B : Nat} {w : World} {l : List Bd} {v : Value} (h : NewB B w l v) (hB : B ≤ w.heap.size) (i : Nat) (hi : i < l.length) : ∃ gr cap C d, v = .slice (some ⟨gr, 0, none⟩) l.length cap ∧ BdAtI B w l v i l[i] gr C d := by
  obtain ⟨inner, fp, ho, ht, hn, hge⟩ := h
  have hlt := NewB.lt (B := B) ho ht
  obtain ⟨gr, cap, rfl, hg0, hg1⟩ := ho.form (by omega)
  obtain ⟨ia, v1, ib, fa, fb, rfl, rfl, hil, h1, hput⟩ := ht.at2 i hi
  obtain ⟨C, d, rfl, hcap, _⟩ := own_C h1
  generalize l[i] = x at h1 ho hput hcap hge hn hlt
  obtain ⟨⟨z0, z1, z2⟩, hfz, _⟩ := row_put3 ho hil
  have hgm : gr ∈ obs (Value.slice (some ⟨gr, 0, none⟩) l.length cap) := by simp [obs, Value.ownBlock]
  obtain ⟨_, nf, nd⟩ := List.nodup_append.1 hn
  obtain ⟨na, nvb, nd2⟩ := List.nodup_append.1 nf
  obtain ⟨_, nb, nd3⟩ := List.nodup_append.1 nvb
  have hgv : ∀ b, b ∈ obs (Value.slice C x.f1.length d) → b ≠ gr := fun b hb he => nd gr hgm b (by simp [hb]) he.symm
  have hga : ∀ b, b ∈ fa ++ fb → b ≠ gr := fun b hb he => nd gr hgm b (by rcases List.mem_append.1 hb with q | q <;> simp [q]) he.symm
  have hva : ∀ b, b ∈ fa ++ fb → b ∉ obs (Value.slice C x.f1.length d) := fun b hb hv => by
    rcases List.mem_append.1 hb with q | q
    · exact nd2 b q b (List.mem_append_left _ hv) rfl
    · exact nd3 b hv b q rfl
  have hgo : ∀ b, (Value.slice (some ⟨gr, 0, none⟩) l.length cap).ownBlock = some b → b = gr := fun b hb => by
    have : gr = b := by simpa [Value.ownBlock] using hb
    exact this.symm
  refine ⟨gr, cap, C, d, rfl, hge gr (List.mem_append_left _ hgm), hg1, z0, z1, z2, hfz, ?_, fun b hb => hgv b (obs_mem.2 hb), fun n => ?_, fun w1 u sc hg hu hat => ?_⟩
  · refine ⟨h1.1, ?_⟩
    rcases h1.2 with q | ⟨g5, cap5, cur5, q, hq, r⟩
    · exact .inl q
    · exact .inr ⟨g5, cap5, cur5, q, hge g5 (by rw [q]; simp [obs, Value.ownBlock]), r⟩
  · have hfar : ∀ b, b ≠ gr → (w.setCell ⟨gr, i * 3 + 2, none⟩ (.int .i64 n)).heap[b]? = w.heap[b]? := fun b hb => Below.heap_setCell _ _ _ _ (by exact hb)
    exact ⟨_, _, by rw [List.length_set]; exact (row_at3 ho hil).2 (.int .i64 n), hput _ ⟨x.f0, x.f1, n⟩ _ (fun b hb => hfar b (hga b hb)) (own_move h1 (fun b hb => hfar b (hgv b (obs_mem.2 hb)))), hn, hge⟩
  · have hrow : ∀ b, b ∉ obs (Value.slice C x.f1.length d) → some b ≠ (Value.slice C x.f1.length d).ownBlock := fun b hb he => hb (obs_mem.2 he.symm)
    have ho1 := own_move (w1 := w1) ho (fun b hb => by rw [hgo b hb]; exact hg.block gr hg1 (hrow gr (fun q => hgv gr q rfl)))
    have huv : ∀ b, u.ownBlock = some b → b ∈ obs (Value.slice C x.f1.length d) ∨ w.heap.size ≤ b := fun b hb => by
      rcases hat with q | ⟨c, q, hc⟩
      · exact .inl (obs_mem.2 (q ▸ hb))
      · rw [q] at hb; cases hb; exact .inr hc
    have hug : ∀ b, b ∈ obs u → b ≠ gr := fun b hb he => by
      rcases huv b (obs_mem.1 hb) with q | q
      · exact hgv b q he
      · omega
    have hua : ∀ b, b ∈ fa ++ fb → b ∉ obs u := fun b hb hv => by
      have := hlt b (by rcases List.mem_append.1 hb with q | q <;> simp [q])
      rcases huv b (obs_mem.1 hv) with q | q
      · exact hva b hb q
      · omega
    have hfar : ∀ b, b ≠ gr → (w1.setCell ⟨gr, i * 3 + 1, none⟩ u).heap[b]? = w1.heap[b]? := fun b hb => Below.heap_setCell _ _ _ _ (by exact hb)
    obtain ⟨⟨_, q1, _⟩, qf, _⟩ := row_put3 ho1 hil
    refine ⟨q1, qf _, ?_⟩
    refine ⟨_, _, by rw [List.length_set]; exact row_at3m ho1 hil u, hput _ ⟨x.f0, sc, x.f2⟩ u (fun b hb => (hfar b (hga b hb)).trans (hg.block b (hlt b (by rcases List.mem_append.1 hb with q | q <;> simp [q])) (hrow b (hva b hb)))) (own_move hu (fun b hb => hfar b (hug b (obs_mem.2 hb)))), ?_, ?_⟩
    · rw [List.nodup_append]
      refine ⟨by simp [obs, Value.ownBlock], ?_, fun a ha b hb he => ?_⟩
      · rw [List.nodup_append]
        refine ⟨na, ?_, fun a ha b hb he => ?_⟩
        · rw [List.nodup_append]
          refine ⟨by unfold obs; cases u.ownBlock <;> simp, nb, fun a ha b hb he => ?_⟩
          subst he; exact hua a (List.mem_append_right _ hb) ha
        · subst he
          rcases List.mem_append.1 hb with q | q
          · exact hua a (List.mem_append_left _ ha) q
          · exact nd2 a ha a (List.mem_append_right _ q) rfl
      · subst he
        have hag := hgo a (obs_mem.1 ha)
        rcases List.mem_append.1 hb with q | q
        · exact hga a (List.mem_append_left _ q) hag
        · rcases List.mem_append.1 q with q | q
          · exact hug a q hag
          · exact hga a (List.mem_append_right _ q) hag
    · intro b hb
      rcases List.mem_append.1 hb with q | q
      · exact hge b (List.mem_append_left _ q)
      · rcases List.mem_append.1 q with q | q
        · exact hge b (by simp [q])
        · rcases List.mem_append.1 q with q | q
          · rcases huv b (obs_mem.1 q) with r | r
            · exact hge b (by simp [r])
            · omega
          · exact hge b (by simp [q])
/-- The same, where the cells are known. -/
theorem NewB.atC {B : Nat} {w : World} {l : List Bd} {gr n cap : Nat} (h : NewB B w l (.slice (some ⟨gr, 0, none⟩) n cap)) (hB : B ≤ w.heap.size) (i : Nat) (hi : i < l.length) {x : Bd} (hx : l[i] = x) {C : Option Addr} {d : Nat} (hc : w.cell? ⟨gr, i * 3 + 1, none⟩ = some (.slice C x.f1.length d)) : BdAtI B w l (.slice (some ⟨gr, 0, none⟩) n cap) i x gr C d := by
  obtain ⟨gr', cap', C', d', e, hat⟩ := h.atI hB i hi
  injection e with a1 a2 a3
  injection a1 with a1
  injection a1 with a1
  subst a1 a2 a3 hx
  have h1 := hat.c1.symm.trans hc
  injection h1 with h1
  injection h1 with b1 b2 b3
  subst b1 b3
  exact hat
end Go.Proofs.Ytcbomlmlindjdaa
end
section
namespace Go.Proofs.Ytcbomlmlindjdaa
open Go.RowKit Go.Proofs.YtcbomlmlindjdaaW.PrintWords Go.Proofs.YtcbomlmlindjdaaW.PrintLast Go.Proofs.YtcbomlmlindjdaaW.PrintMore
set_option linter.unusedVariables false
set_option linter.unusedSimpArgs false
section
open Go.Proofs.Ytcbomlmlindjdaa.Q
theorem f3_tot (x : Fm) : x.f3.length ≤ x.tot := by rw [Fm.tot_eq]; omega
theorem f1_tot (x : Fm) : x.f1.size ≤ x.tot := by rw [Fm.tot_eq]; omega
theorem smB_snoc {l : List Bd} (h : SmB l) (h1 : l.length ≤ 60) {b : Bd} (hb : b.f0.size ≤ 2000000 ∧ b.f1.length ≤ 2000000) : SmB (l ++ [b]) :=
  ⟨by simp; omega, fun c hc => by
    rcases List.mem_append.1 hc with h2 | h2
    · exact h.2 c h2
    · rw [List.mem_singleton.1 h2]; exact hb⟩
theorem ev_isNameI {x : Fm} (hx : x.tot ≤ 1048576) : impl_isName.f x.f0 x.f1 x.f2 x.f3 x.f4 = some (pB (IsName x)) := by
  unfold impl_isName.f
  by_cases h : x.f0 = 1
  · rw [if_pos h, show impl_FormValid.f x.f0 x.f1 x.f2 x.f3 x.f4 = some (pB (FmOk x)) from by cases x; exact gIf_yes hx _]
    show some (pB (FmOk x)) = _
    congr 1
    by_cases hv : FmOk x
    · rw [pB_iff.2 hv, pB_iff.2 ⟨h, hv⟩]
    · rw [← pB_no hv, ← pB_no (fun k : IsName x => hv k.2)]
  · rw [if_neg h, ← pB_no (fun k : IsName x => h k.1)]
theorem ev_bindsI {l : List Bd} (hl : SmB l) : impl_BindsValid.f l = some (pB (BdsOk l)) := gIf_yes (fun b hb => by have := (hl.2 b hb).1; omega) _
theorem ev_l3Copy {l : List Bd} (hl : SmB l) : Ev (fun k => spec_l3Copy.f k l) l := by
  have h0 := hl.1
  simp only [spec_l3Copy.f]
  obtain ⟨r, hp, hr⟩ := ev_loop (L := fun k (s : Int × List Bd) => spec_l3Copy.l0 k l s.2 s.1) (fun i s => s = ((i : Int), l.take i)) l.length (· = l) (by
    rintro i s hi rfl
    refine ⟨((i + 1 : Nat), l.take (i + 1)), rfl, fun r hr => ?_⟩
    have h2 := (hl.2 _ (List.getElem_mem hi)).2
    refine Ev.step (fun k => by rw [spec_l3Copy.l0]) ?_
    refine Ev.pos (by simpa using hi) ?_
    refine Ev.pos (by simp) ?_
    simp only
    rw [rdB hi]
    refine Ev.bind (g := fun _ => _) (Ev.some rfl) ?_
    refine Ev.pos (by simp; omega) ?_
    refine Ev.pos (by simp; omega) ?_
    rw [wr1 _ (by omega), List.nil_append, show (⟨l[i].f0, l[i].f1, l[i].f2⟩ : Bd) = l[i] from rfl, ← List.take_succ_eq_append_getElem hi]
    exact hr) (by
    rintro s rfl
    refine ⟨l, rfl, ?_⟩
    refine Ev.step (fun k => by rw [spec_l3Copy.l0]) ?_
    refine Ev.neg (by simp) ?_
    exact Ev.some (by simp)) (0, []) (by simp)
  subst hp
  exact hr
theorem ev_specAddBind {l : List Bd} (hl : SmB l) {x : Fm} (hx : x.tot ≤ 1048576) (id : Int) : Ev (fun k => spec_AddBind.f k l x.f0 x.f1 x.f2 x.f3 x.f4 id) (addBindR l x id) := by
  have h3 := f3_tot x
  have h1 := f1_tot x
  simp only [spec_AddBind.f]
  refine Ev.bind (ev_bindsValid hl) ?_
  unfold addBindR
  rw [isName_pair]
  rcases hv : pB (BdsOk l) with _ | _
  · refine Ev.neg (by simp) (Ev.step (fun k => by rw [spec_AddBind.j0]) ?_)
    exact Ev.pos rfl (Ev.now _)
  · have h60 := (bdsOk_iff.1 (pB_iff.1 hv)).1
    refine Ev.pos rfl (Ev.bind (g := fun _ => _) (Ev.some (ev_l3Is hx)) ?_)
    rcases pB (IsName x) with _ | _
    · refine Ev.step (fun k => by rw [spec_AddBind.j0]) ?_
      exact Ev.pos rfl (Ev.now _)
    · refine Ev.step (fun k => by rw [spec_AddBind.j0]) ?_
      refine Ev.neg (by simp) (Ev.bind (ev_l3Copy hl) (Ev.bind (g := fun _ => _) (Ev.some rfl) ?_))
      refine Ev.pos (by simp; omega) (Ev.pos (by omega) (Ev.bind (g := fun _ => _) (Ev.some rfl) ?_))
      rw [List.nil_append]
      refine Ev.bind (ev_bindsValid (smB_snoc hl h60 ⟨by show x.f1.size ≤ _; omega, by show x.f3.length ≤ _; omega⟩)) ?_
      rw [Bool.true_and, if_pos rfl]
      by_cases hb : pB (BdsOk (l ++ [⟨x.f1, x.f3, id⟩])) = true
      · refine Ev.pos hb ?_; rw [if_pos hb]; exact Ev.now _
      · refine Ev.neg hb ?_; rw [if_neg hb]; exact Ev.now _
theorem ev_copyBinds {l : List Bd} (hl : SmB l) : Ev (fun k => impl_copyBinds.f k l) l := by
  have h0 := hl.1
  simp only [impl_copyBinds.f]
  obtain ⟨r, hp, hr⟩ := ev_loop (L := fun k (s : Int × List Bd) => impl_copyBinds.l0 k s.2 l (l.length : Int) s.1) (fun i s => s = ((i : Int), l.take i)) l.length (· = l) (by
    rintro i s hi rfl
    refine ⟨((i + 1 : Nat), l.take (i + 1)), rfl, fun r hr => ?_⟩
    have h2 := (hl.2 _ (List.getElem_mem hi)).2
    refine Ev.step (fun k => by rw [impl_copyBinds.l0]) ?_
    refine Ev.pos (by simpa using hi) ?_
    refine Ev.pos (by simp) ?_
    refine Ev.pos (by simpa using hi) ?_
    simp only
    rw [rdB hi]
    refine Ev.bind (g := fun _ => _) (Ev.some (show slices_Clone_int_int.f l[i].f1 = some l[i].f1 from by first | rfl | exact gIf_yes (by omega) _)) ?_
    refine Ev.pos (by simp; omega) ?_
    rw [wr1 _ (by omega), show (⟨l[i].f0, l[i].f1, l[i].f2⟩ : Bd) = l[i] from rfl, ← List.take_succ_eq_append_getElem hi]
    exact hr) (by
    rintro s rfl
    refine ⟨l, rfl, ?_⟩
    refine Ev.step (fun k => by rw [impl_copyBinds.l0]) ?_
    refine Ev.neg (by simp) ?_
    exact Ev.some (by simp)) (0, []) (by simp)
  subst hp
  exact hr
theorem ev_implAddBind {l : List Bd} (hl : SmB l) {x : Fm} (hx : x.tot ≤ 1048576) (id : Int) : Ev (fun k => impl_AddBind.f k l x.f0 x.f1 x.f2 x.f3 x.f4 id) (addBindR l x id) := by
  have h3 := f3_tot x
  have h1 := f1_tot x
  simp only [impl_AddBind.f]
  refine Ev.bind (g := fun _ => _) (Ev.some (ev_bindsI hl)) ?_
  unfold addBindR
  rw [isName_pair]
  rcases hv : pB (BdsOk l) with _ | _
  · refine Ev.neg (by simp) (Ev.step (fun k => by rw [impl_AddBind.j0]) ?_)
    exact Ev.pos rfl (Ev.now _)
  · have h60 := (bdsOk_iff.1 (pB_iff.1 hv)).1
    refine Ev.pos rfl (Ev.bind (g := fun _ => _) (Ev.some (ev_isNameI hx)) ?_)
    rcases pB (IsName x) with _ | _
    · refine Ev.step (fun k => by rw [impl_AddBind.j0]) ?_
      exact Ev.pos rfl (Ev.now _)
    · refine Ev.step (fun k => by rw [impl_AddBind.j0]) ?_
      refine Ev.neg (by simp) (Ev.bind (ev_copyBinds hl) ?_)
      refine Ev.bind (g := fun _ => _) (Ev.some (show slices_Clone_int_int.f x.f3 = some x.f3 from by first | rfl | exact gIf_yes (by omega) _)) ?_
      refine Ev.pos (by omega) (Ev.bind (g := fun _ => _) (Ev.some rfl) ?_)
      refine Ev.bind (g := fun _ => _) (Ev.some (ev_bindsI (smB_snoc hl h60 ⟨by show x.f1.size ≤ _; omega, by show x.f3.length ≤ _; omega⟩))) ?_
      rw [Bool.true_and, if_pos rfl]
      by_cases hb : pB (BdsOk (l ++ [⟨x.f1, x.f3, id⟩])) = true
      · refine Ev.pos hb ?_; rw [if_pos hb]; exact Ev.now _
      · refine Ev.neg hb ?_; rw [if_neg hb]; exact Ev.now _
end
/-- Out of the print's form of a row of one's own whose elements lie apart. -/
theorem bdl_ofS {w : World} {base : Nat} {ok : Nat → Prop} {f : Nat → Nat} : ∀ (l : List Bd) (j0 : Nat) (inner : List Value), inner.length = l.length * 3 → (∀ (j : Nat) (p : Bd × Nat), (l.zipIdx j0)[j]? = some p → (Kd.tag f kB).M w base ok p ((inner.drop (j * 3)).take 3)) → ∃ fp, BdL w l inner fp ∧ fp.Nodup ∧ ∀ b, b ∈ fp → base ≤ b ∧ ok b ∧ j0 ≤ f b
  | [], j0, inner, hl, _ => ⟨[], ⟨List.eq_nil_of_length_eq_zero (by simpa using hl), rfl⟩, List.nodup_nil, by simp⟩
  | b :: l, j0, inner, hl, h => by
    have h0 := h 0 (b, j0) (by simp [List.zipIdx_cons])
    obtain ⟨v1, e1, hR⟩ := Q.k36_openM (show kB.M w base (fun k => ok k ∧ f k = j0) b _ from h0)
    have ho := Kd.own_of_R hR
    obtain ⟨fp, a1, a2, a3⟩ := bdl_ofS l (j0 + 1) (inner.drop 3) (by simp [hl]; omega) (fun j p hj => by
      have := h (j + 1) p (by simpa [List.zipIdx_cons] using hj)
      rwa [show (j + 1) * 3 = 3 + j * 3 from by omega, ← List.drop_drop] at this)
    have hv : ∀ k, v1.ownBlock = some k → base ≤ k ∧ ok k ∧ f k = j0 := fun k hk => ⟨Kd.R_base hR k hk, (hR.1 k hk).1, (hR.1 k hk).2⟩
    refine ⟨obs v1 ++ fp, ⟨v1, inner.drop 3, fp, ?_, rfl, own_weaken ho (Nat.zero_le _), a1⟩, ?_, fun k hk => ?_⟩
    · have e3 : inner.take 3 = [.string b.f0, v1, .int .i64 b.f2] := by simpa using e1
      rw [← e3, List.take_append_drop]
    · rw [List.nodup_append]
      refine ⟨by unfold obs; cases v1.ownBlock <;> simp, a2, fun x hx y hy he => ?_⟩
      have h1 := (hv x (obs_mem.1 hx)).2.2
      have h2 := (a3 y hy).2.2
      subst he
      omega
    · rcases List.mem_append.1 hk with q | q
      · have := hv k (obs_mem.1 q)
        exact ⟨this.1, this.2.1, by omega⟩
      · have := a3 k q
        exact ⟨this.1, this.2.1, by omega⟩
theorem NewB.ofS {w : World} {base : Nat} {v : Value} {l : List Bd} (h : Kd.S kB 36 w base (fun _ => True) v l) : NewB base w l v := by
  obtain ⟨f, h0, inner, ho, hr⟩ := h
  rw [List.length_zipIdx] at ho
  have hl : inner.length = l.length * 3 := by have := hr.1; rw [List.length_zipIdx] at this; exact this
  obtain ⟨fp, a1, a2, a3⟩ := bdl_ofS l 0 inner hl (fun j p hj => hr.2 j p hj)
  refine ⟨inner, fp, own_weaken ho (Nat.zero_le _), a1, ?_, fun b hb => ?_⟩
  · rw [List.nodup_append]
    refine ⟨by unfold obs; cases v.ownBlock <;> simp, a2, fun x hx y hy he => ?_⟩
    subst he
    exact (a3 x hy).2.1.2 (obs_mem.1 hx).symm
  · rcases List.mem_append.1 hb with q | q
    · exact (by have := ho; rcases this with ⟨_, ⟨rfl, _⟩ | ⟨g, cap, cur, rfl, hg, _⟩⟩; (exact absurd (obs_mem.1 q) (by simp [Value.ownBlock])); (have h9 : g = b := by simpa [Value.ownBlock] using obs_mem.1 q); omega)
    · exact (a3 b q).1
theorem specAddB_any (l : List Bd) (A : Option Addr) (c : Nat) (x : Fm) (A3 : Option Addr) (c3 : Nat) (A4 : Option Addr) (c4 : Nat) (id : Int) (w : World) (hr : kB.C w A l.length l) (hc : l.length ≤ c) (hx : FmIn w x A3 c3 A4 c4) (hs : SmB l) (ht : x.tot ≤ 1048576) :
    Calls Try.prog 23 #[.slice A l.length c, .agg #[.int .i64 x.f0, .string x.f1, .int .i64 x.f2, .slice A3 x.f3.length c3, .slice A4 x.f4.length c4], .int .i64 id] w (fun e w' => ∃ v, e = .returned (.tuple #[v, .bool (addBindR l x id).2]) ∧ NewB w.heap.size w' (addBindR l x id).1 v ∧ Below w.heap.size w w') := by
  obtain ⟨k, hk⟩ := (ev_specAddBind hs ht id).rounds
  refine (Q.spec_AddBind.calls k A c l x.f0 x.f1 x.f2 A3 c3 x.f3 A4 c4 x.f4 id _ _ w hr hc hx.g3 hx.l3 hx.g4 hx.l4 hk).mono ?_
  rintro e w' ⟨v, rfl, hS, hb⟩
  exact ⟨v, rfl, NewB.ofS hS, hb⟩
theorem implAddB_any (l : List Bd) (A : Option Addr) (c : Nat) (x : Fm) (A3 : Option Addr) (c3 : Nat) (A4 : Option Addr) (c4 : Nat) (id : Int) (w : World) (hr : kB.C w A l.length l) (hc : l.length ≤ c) (hx : FmIn w x A3 c3 A4 c4) (hs : SmB l) (ht : x.tot ≤ 1048576) :
    Calls Try.prog 22 #[.slice A l.length c, .agg #[.int .i64 x.f0, .string x.f1, .int .i64 x.f2, .slice A3 x.f3.length c3, .slice A4 x.f4.length c4], .int .i64 id] w (fun e w' => ∃ v, e = .returned (.tuple #[v, .bool (addBindR l x id).2]) ∧ NewB w.heap.size w' (addBindR l x id).1 v ∧ Below w.heap.size w w') := by
  obtain ⟨k, hk⟩ := (ev_implAddBind hs ht id).rounds
  refine (Q.impl_AddBind.calls k A c l x.f0 x.f1 x.f2 A3 c3 x.f3 A4 c4 x.f4 id _ _ w hr hc hx.g3 hx.l3 hx.g4 hx.l4 hk).mono ?_
  rintro e w' ⟨v, rfl, hS, hb⟩
  exact ⟨v, rfl, NewB.ofS hS, hb⟩
end Go.Proofs.Ytcbomlmlindjdaa
end
section
namespace Go.Proofs.Ytcbomlmlindjdaa
open Go.RowKit Go.Proofs.YtcbomlmlindjdaaW.PrintWords Go.Proofs.YtcbomlmlindjdaaW.PrintLast Go.Proofs.YtcbomlmlindjdaaW.PrintMore
set_option linter.unusedVariables false
set_option linter.unusedSimpArgs false
/-- Behind the world w (two blocks O1, O2, then g3): the form's variable holds C. -/
structure Fr (w : World) (O1 O2 : Obj) (g3 : Nat) (C : Array Value) (W : World) : Prop where
  b : Below w.heap.size w W
  k1 : W.heap[w.heap.size]? = some O1
  k2 : W.heap[w.heap.size + 1]? = some O2
  k3 : W.heap[g3]? = some (.cells C 30 (0, 0))
  h3 : w.heap.size + 2 ≤ g3
theorem Fr.later {w W W1 : World} {O1 O2 : Obj} {g3 : Nat} {C : Array Value} (h : Fr w O1 O2 g3 C W) (hb : Below W.heap.size W W1) : Fr w O1 O2 g3 C W1 :=
  ⟨below_step h.b hb, blk_below h.k1 hb, blk_below h.k2 hb, blk_below h.k3 hb, h.h3⟩
theorem Fr.lt {w W : World} {O1 O2 : Obj} {g3 : Nat} {C : Array Value} (h : Fr w O1 O2 g3 C W) : w.heap.size + 2 ≤ W.heap.size ∧ g3 < W.heap.size := by
  have h1 := blk_lt h.k2
  have h2 := blk_lt h.k3
  omega
theorem Fr.grown {w W W1 : World} {O1 O2 : Obj} {g3 : Nat} {C : Array Value} {row : Option Nat} (h : Fr w O1 O2 g3 C W) (hg : W.grownBy W1 row) (hr : ∀ k, row = some k → w.heap.size + 2 ≤ k ∧ k ≠ g3) : Fr w O1 O2 g3 C W1 := by
  have hl := h.lt
  have hne : ∀ k, k < w.heap.size + 2 ∨ k = g3 → some k ≠ row := fun k hk he => by
    have := hr k he.symm
    omega
  refine ⟨⟨hg.os.trans h.b.os, hg.tape.trans h.b.tape, hg.output.trans h.b.output, Nat.le_trans h.b.size hg.size, fun k hk => (hg.block k (by omega) (hne k (by omega))).trans (h.b.block k hk)⟩, ?_, ?_, ?_, h.h3⟩
  · exact (hg.block _ (by omega) (hne _ (by omega))).trans h.k1
  · exact (hg.block _ (by omega) (hne _ (by omega))).trans h.k2
  · exact (hg.block _ (by omega) (hne _ (by omega))).trans h.k3
theorem Fr.put {w W : World} {O1 O2 : Obj} {g3 : Nat} {a b c d u : Value} (h : Fr w O1 O2 g3 #[a, b, c, d, u] W) (v : Value) : Fr w O1 O2 g3 #[a, b, c, d, v] (W.setCell ⟨g3, 4, none⟩ v) := by
  have h3 := h.h3
  refine ⟨below_set h.b (by show w.heap.size ≤ g3; omega), ?_, ?_, ?_, h3⟩
  · rw [Below.heap_setCell _ _ _ _ (by show w.heap.size ≠ g3; omega)]; exact h.k1
  · rw [Below.heap_setCell _ _ _ _ (by show w.heap.size + 1 ≠ g3; omega)]; exact h.k2
  · simpa using blk_set h.k3 4 v
/-- The rows of the form that is being built: its scopes, and what is done of its parts. -/
structure Cp (w : World) (O1 O2 : Obj) (g3 : Nat) (k : Int) (n : ByteArray) (m : Int) (sc : List Int) (done : List Fm) (v3 v : Value) (inner : List Value) (fp : List Nat) (W : World) : Prop where
  fr : Fr w O1 O2 g3 #[.int .i64 k, .string n, .int .i64 m, v3, v] W
  o3 : W.ownsRow 0 3 1 v3 sc.length (encI sc)
  o4 : W.ownsRow 0 30 5 v done.length inner
  tr : TrL W done inner fp
  nd : (obs v3 ++ (obs v ++ fp)).Nodup
  ge : ∀ b, b ∈ obs v3 ++ (obs v ++ fp) → w.heap.size + 2 ≤ b ∧ b ≠ g3
section
variable {w W W1 : World} {O1 O2 : Obj} {g3 : Nat} {k m : Int} {n : ByteArray} {sc : List Int} {done : List Fm} {v3 v : Value} {inner : List Value} {fp : List Nat}
theorem Cp.lt (h : Cp w O1 O2 g3 k n m sc done v3 v inner fp W) : ∀ b, b ∈ obs v3 ++ (obs v ++ fp) → b < W.heap.size := by
  intro b hb
  rcases List.mem_append.1 hb with hb | hb
  · exact own_lt h.o3 b (obs_mem.1 hb)
  rcases List.mem_append.1 hb with hb | hb
  · exact own_lt h.o4 b (obs_mem.1 hb)
  · exact h.tr.lt _ b hb
theorem Cp.later (h : Cp w O1 O2 g3 k n m sc done v3 v inner fp W) (hb : Below W.heap.size W W1) : Cp w O1 O2 g3 k n m sc done v3 v inner fp W1 := by
  have hl := h.lt
  refine ⟨h.fr.later hb, own_move h.o3 (fun b hb2 => hb.block b (hl b (by simp [obs_mem, hb2]))), own_move h.o4 (fun b hb2 => hb.block b (hl b (by simp [obs_mem, hb2]))), h.tr.later hb, h.nd, h.ge⟩
/-- Another part is done: behind the append, and the store into the variable. -/
theorem Cp.more (h : Cp w O1 O2 g3 k n m sc done v3 v inner fp W) {B : Nat} {y : Fm} {u3 u4 : Value} (hB : ∀ b, b ∈ obs v3 ++ (obs v ++ fp) → b < B) (hg3 : g3 < B) (hB2 : w.heap.size + 2 ≤ B) (hn : NewF B W y u3 u4)
    {v' : Value} (ho : W1.ownsRow 0 30 5 v' (done.length + 1) (inner ++ [.int .i64 y.f0, .string y.f1, .int .i64 y.f2, u3, u4])) (hg : W.grownBy W1 v.ownBlock) (hat : v'.ownBlock = v.ownBlock ∨ ∃ b, v'.ownBlock = some b ∧ W.heap.size ≤ b) :
    ∃ fp', Cp w O1 O2 g3 k n m sc (done ++ [y]) v3 v' (inner ++ [.int .i64 y.f0, .string y.f1, .int .i64 y.f2, u3, u4]) fp' (W1.setCell ⟨g3, 4, none⟩ v') := by
  obtain ⟨fk, ht, hnd, hge⟩ := hn
  have hl := h.lt
  have hnd0 := h.nd
  have hge0 := h.ge
  simp only [List.nodup_append, List.mem_append] at hnd0 hge0 hl hB
  obtain ⟨n3, ⟨n4, n5, n45⟩, n345⟩ := hnd0
  have htl := ht.lt y
  have hlt1 : ∀ b, b ∈ obs v' → b < W1.heap.size := fun b hb => own_lt ho b (obs_mem.1 hb)
  have hobs : ∀ b, b ∈ obs v' → b ∈ obs v ∨ W.heap.size ≤ b := by
    intro b hb
    rcases hat with e | ⟨c, e, hc⟩
    · exact .inl (obs_mem.2 (e ▸ obs_mem.1 hb))
    · have := obs_mem.1 hb
      rw [e] at this
      cases this
      exact .inr hc
  have hnv : ∀ b, b ∈ obs v3 ∨ b ∈ fp ∨ b ∈ fk → some b ≠ v.ownBlock := by
    intro b hb he
    have hbv : b ∈ obs v := obs_mem.2 he.symm
    rcases hb with hb | hb | hb
    · exact n345 b hb b (.inl hbv) rfl
    · exact n45 b hbv b hb rfl
    · have := hB b (.inr (.inl hbv))
      have := hge b hb
      omega
  have hmv : ∀ b, b ∈ obs v3 ∨ b ∈ fp ∨ b ∈ fk → (W1.setCell ⟨g3, 4, none⟩ v').heap[b]? = W.heap[b]? := by
    intro b hb
    have hb2 : b < W.heap.size ∧ b ≠ g3 := by
      rcases hb with hb | hb | hb
      · exact ⟨hl b (.inl hb), (hge0 b (.inl hb)).2⟩
      · exact ⟨hl b (.inr (.inr hb)), (hge0 b (.inr (.inr hb))).2⟩
      · have := hge b hb
        exact ⟨htl b hb, by omega⟩
    rw [Below.heap_setCell _ _ _ _ (by show b ≠ g3; exact hb2.2)]
    exact hg.block b hb2.1 (hnv b hb)
  have hv'3 : ∀ b, b ∈ obs v' → b ≠ g3 := by
    intro b hb he
    have hl3 := h.fr.lt
    rcases hobs b hb with h1 | h1
    · exact (hge0 b (.inr (.inl h1))).2 he
    · omega
  have hrow := h.fr.grown hg (fun c hc => hge0 c (.inr (.inl (obs_mem.2 hc))))
  refine ⟨fp ++ fk, hrow.put v', ?_, ?_, ?_, ?_, ?_⟩
  · exact own_move h.o3 (fun b hb => hmv b (.inl (obs_mem.2 hb)))
  · rw [List.length_append]
    exact own_move ho (fun b hb => Below.heap_setCell _ _ _ _ (by show b ≠ g3; exact hv'3 b (obs_mem.2 hb)))
  · exact (h.tr.move _ (fun b hb => hmv b (.inr (.inl hb)))).append (TrL.one (ht.move y (fun b hb => hmv b (.inr (.inr hb)))))
  · simp only [List.nodup_append, List.mem_append]
    refine ⟨n3, ⟨?_, ⟨n5, hnd, fun a ha b hb e => ?_⟩, fun a ha b hb e => ?_⟩, fun a ha b hb e => ?_⟩
    · unfold obs
      cases v'.ownBlock <;> simp
    · have := hB a (.inr (.inr ha)); have := hge b hb; omega
    · subst e
      rcases hobs a ha with h1 | h1
      · rcases hb with hb | hb
        · exact n45 a h1 a hb rfl
        · have := hB a (.inr (.inl h1)); have := hge a hb; omega
      · rcases hb with hb | hb
        · have := hl a (.inr (.inr hb)); omega
        · have := htl a hb; omega
    · subst e
      rcases hb with hb | hb | hb
      · rcases hobs a hb with h1 | h1
        · exact n345 a ha a (.inl h1) rfl
        · have := hl a (.inl ha); omega
      · exact n345 a ha a (.inr hb) rfl
      · have := hB a (.inl ha); have := hge a hb; omega
  · simp only [List.mem_append]
    intro b hb
    have hl3 := h.fr.lt
    rcases hb with hb | hb | hb | hb
    · exact hge0 b (.inl hb)
    · rcases hobs b hb with h1 | h1
      · exact hge0 b (.inr (.inl h1))
      · exact ⟨by omega, by omega⟩
    · exact hge0 b (.inr (.inr hb))
    · have := hge b hb
      exact ⟨by omega, by omega⟩
/-- All parts are done. -/
theorem Cp.newF (h : Cp w O1 O2 g3 k n m sc done v3 v inner fp W) (hW : ∀ b, b ≠ w.heap.size + 1 → W1.heap[b]? = W.heap[b]?) : NewF w.heap.size W1 ⟨k, n, m, sc, done⟩ v3 v := by
  have hge := h.ge
  refine ⟨_, .mk ⟨k, n, m, sc, done⟩ v3 v inner fp (own_move h.o3 (fun b hb => hW b ?_)) (own_move h.o4 (fun b hb => hW b ?_)) (h.tr.move _ (fun b hb => hW b ?_)), h.nd, fun b hb => ?_⟩
  · have := hge b (by simp [obs_mem, hb]); omega
  · have := hge b (by simp [obs_mem, hb]); omega
  · have := hge b (by simp [hb]); omega
  · have := hge b hb; omega
end
theorem st5 {W : World} {g : Nat} {t : TypeId} {a0 a1 a2 a3 a4 : Value} (h : W.heap[g]? = some (.cells #[a0, a1, a2, a3, a4] t (0, 0))) (b0 b1 b2 b3 b4 : Value) :
    (((((W.setCell ⟨g, 0, none⟩ b0).setCell ⟨g, 1, none⟩ b1).setCell ⟨g, 2, none⟩ b2).setCell ⟨g, 3, none⟩ b3).setCell ⟨g, 4, none⟩ b4).heap[g]? = some (.cells #[b0, b1, b2, b3, b4] t (0, 0)) ∧
    (∀ k, k ≠ g → (((((W.setCell ⟨g, 0, none⟩ b0).setCell ⟨g, 1, none⟩ b1).setCell ⟨g, 2, none⟩ b2).setCell ⟨g, 3, none⟩ b3).setCell ⟨g, 4, none⟩ b4).heap[k]? = W.heap[k]?) ∧
    (∀ (B : Nat) (a : World), Below B a W → B ≤ g → Below B a (((((W.setCell ⟨g, 0, none⟩ b0).setCell ⟨g, 1, none⟩ b1).setCell ⟨g, 2, none⟩ b2).setCell ⟨g, 3, none⟩ b3).setCell ⟨g, 4, none⟩ b4)) := by
  refine ⟨?_, fun k hk => ?_, fun B a h hg => ?_⟩
  · have s0 := blk_set h 0 b0
    have s1 := blk_set s0 1 b1
    have s2 := blk_set s1 2 b2
    have s3 := blk_set s2 3 b3
    have s4 := blk_set s3 4 b4
    simpa using s4
  · rw [Below.heap_setCell _ _ _ _ (by exact hk), Below.heap_setCell _ _ _ _ (by exact hk), Below.heap_setCell _ _ _ _ (by exact hk), Below.heap_setCell _ _ _ _ (by exact hk), Below.heap_setCell _ _ _ _ (by exact hk)]
  · exact ((((h.setCell (p := ⟨g, _, none⟩) hg _).setCell (p := ⟨g, _, none⟩) hg _).setCell (p := ⟨g, _, none⟩) hg _).setCell (p := ⟨g, _, none⟩) hg _).setCell (p := ⟨g, _, none⟩) hg _
/-- The form's variable is laid: no part is done yet. -/
theorem Cp.start {w w5 wz W : World} {O1 O2 : Obj} {g3 : Nat} {k m : Int} {n : ByteArray} {sc : List Int} {v3 : Value} {ok : Nat → Prop} (hk1 : w5.heap[w.heap.size]? = some O1) (hk2 : w5.heap[w.heap.size + 1]? = some O2) (hb0 : Below w.heap.size w w5) (hsz : w.heap.size + 2 ≤ w5.heap.size)
    (hbz : Below w5.heap.size w5 wz) (ho3 : kI.R 3 wz w5.heap.size ok v3 sc) (hg3 : w5.heap.size ≤ g3) (hne : some g3 ≠ v3.ownBlock) (hW : W.heap[g3]? = some (.cells #[.int .i64 k, .string n, .int .i64 m, v3, .slice none 0 0] 30 (0, 0)))
    (hWo : ∀ b, b ≠ g3 → W.heap[b]? = wz.heap[b]?) (hWb : Below w5.heap.size w5 W) : Cp w O1 O2 g3 k n m sc [] v3 (.slice none 0 0) [] [] W := by
  have h1 := blk_lt hk2
  have hb := Kd.R_base ho3
  refine ⟨⟨hb0.trans (hWb.mono hb0.size), blk_below hk1 hWb, blk_below hk2 hWb, hW, by omega⟩, own_move (own_weaken (Kd.own_of_R ho3) (Nat.zero_le _)) (fun b hb2 => hWo b (fun e => hne (by rw [← e, hb2]))), by simp [World.ownsRow], .nil, ?_, fun b hb2 => ?_⟩
  · rw [show obs v3 ++ (obs (Value.slice none 0 0) ++ []) = obs v3 from by simp [obs, Value.ownBlock]]
    unfold obs
    cases v3.ownBlock <;> simp
  · have hb3 : b ∈ obs v3 := by simpa [obs, Value.ownBlock] using hb2
    have := hb b (obs_mem.1 hb3)
    exact ⟨by omega, fun e => hne (by rw [← e, obs_mem.1 hb3])⟩
end Go.Proofs.Ytcbomlmlindjdaa
end
section
namespace Go.Proofs.Ytcbomlmlindjdaa
open Go.RowKit Go.Proofs.YtcbomlmlindjdaaW.PrintWords Go.Proofs.YtcbomlmlindjdaaW.PrintLast Go.Proofs.YtcbomlmlindjdaaW.PrintMore
set_option linter.unusedVariables false
set_option linter.unusedSimpArgs false
abbrev IsRd := @Q.IsS78
/-- From w to W: the source in block g stands at q; no other block of w has changed. -/
structure Dr (w0 w : World) (g : Nat) (s : List Int) (q : Int) (W : World) : Prop where
  is : IsRd w0 W g s q
  b : Below w0.heap.size w0 W
  kp : KeepBut w W g none
  lt : g < w.heap.size
section
variable {w0 w W W1 : World} {g : Nat} {s : List Int} {q q' : Int}
theorem Dr.new (hi : IsRd w0 w g s q) (hb : Below w0.heap.size w0 w) : Dr w0 w g s q w := ⟨hi, hb, KeepBut.refl _ _ _, Q.IsS78.lt hi⟩
theorem Dr.size (h : Dr w0 w g s q W) : w.heap.size ≤ W.heap.size := keep_size h.kp
theorem Dr.later (h : Dr w0 w g s q W) (hb : Below W.heap.size W W1) : Dr w0 w g s q W1 := ⟨Q.IsS78.below h.is hb, below_step h.b hb, h.kp.trans (KeepBut.of_below hb g none) (.inl rfl), h.lt⟩
theorem Dr.call (h : Dr w0 w g s q W) (h1 : IsRd w0 W1 g s q') (h2 : Below w0.heap.size w0 W1) (h3 : KeepBut W W1 g none) : Dr w0 w g s q' W1 := ⟨h1, h2, h.kp.trans h3 (.inl rfl), h.lt⟩
theorem Dr.put (h : Dr w0 w g s q W) {b j : Nat} (hb : w.heap.size ≤ b) (u : Value) : Dr w0 w g s q (W.setCell ⟨b, j, none⟩ u) := by
  have := h.lt
  have hge := Q.IsS78.ge h.is
  exact ⟨Q.IsS78.far h.is (by show g ≠ b; omega) u, below_set h.b (by show w0.heap.size ≤ b; omega), keep_far h.kp (by exact hb) u, h.lt⟩
theorem Dr.grown {row : Option Nat} (h : Dr w0 w g s q W) (hg : W.grownBy W1 row) (hr : ∀ k, row = some k → w.heap.size ≤ k) : Dr w0 w g s q W1 := by
  have hl := h.lt
  have hge := Q.IsS78.ge h.is
  have hs := h.size
  have hne : ∀ k, k < w.heap.size → some k ≠ row := fun k hk he => by
    have := hr k he.symm
    omega
  refine ⟨Q.IsS78.grown h.is hg (hne g hl), ⟨hg.os.trans h.b.os, hg.tape.trans h.b.tape, hg.output.trans h.b.output, Nat.le_trans h.b.size hg.size, fun k hk => (hg.block k (by have := h.b.size; omega) (hne k (by omega))).trans (h.b.block k hk)⟩, ⟨Nat.le_trans hs hg.size, fun i hi h1 h2 => (hg.block i (by omega) (hne i hi)).trans (h.kp.2 i hi h1 h2)⟩, hl⟩
end
structure Dp (w0 w : World) (g : Nat) (s : List Int) (q : Int) (O1 O2 : Obj) (g3 : Nat) (k : Int) (n : ByteArray) (m : Int) (sc : List Int) (ks : List Fm) (v3 v : Value) (inner : List Value) (fp : List Nat) (W : World) : Prop where
  dr : Dr w0 w g s q W
  k1 : W.heap[w.heap.size]? = some O1
  k2 : W.heap[w.heap.size + 1]? = some O2
  k3 : W.heap[g3]? = some (.cells #[.int .i64 k, .string n, .int .i64 m, v3, v] 30 (0, 0))
  h3 : w.heap.size + 2 ≤ g3
  o3 : W.ownsRow 0 3 1 v3 sc.length (encI sc)
  o4 : W.ownsRow 0 30 5 v ks.length inner
  tr : TrL W ks inner fp
  nd : (obs v3 ++ (obs v ++ fp)).Nodup
  ge : ∀ b, b ∈ obs v3 ++ (obs v ++ fp) → w.heap.size + 2 ≤ b ∧ b ≠ g3
section
variable {w0 w W W1 : World} {g : Nat} {s : List Int} {q q' : Int} {O1 O2 : Obj} {g3 : Nat} {k m : Int} {n : ByteArray} {sc : List Int} {ks : List Fm} {v3 v : Value} {inner : List Value} {fp : List Nat}
theorem Dp.lt (h : Dp w0 w g s q O1 O2 g3 k n m sc ks v3 v inner fp W) : ∀ b, b ∈ obs v3 ++ (obs v ++ fp) → b < W.heap.size := by
  intro b hb
  rcases List.mem_append.1 hb with hb | hb
  · exact own_lt h.o3 b (obs_mem.1 hb)
  rcases List.mem_append.1 hb with hb | hb
  · exact own_lt h.o4 b (obs_mem.1 hb)
  · exact h.tr.lt _ b hb
theorem Dp.lts (h : Dp w0 w g s q O1 O2 g3 k n m sc ks v3 v inner fp W) : w.heap.size + 2 ≤ W.heap.size ∧ g3 < W.heap.size := by
  have h1 := blk_lt h.k2
  have h2 := blk_lt h.k3
  omega
/-- A world in which the source stands elsewhere, and the blocks from w on stand as_ they stood. -/
theorem Dp.move (h : Dp w0 w g s q O1 O2 g3 k n m sc ks v3 v inner fp W) (hd : Dr w0 w g s q' W1) (hm : ∀ b, w.heap.size ≤ b → b < W.heap.size → W1.heap[b]? = W.heap[b]?) : Dp w0 w g s q' O1 O2 g3 k n m sc ks v3 v inner fp W1 := by
  have hl := h.lt
  have hge := h.ge
  have hs := h.lts
  have h3 := h.h3
  have hmv : ∀ b, b ∈ obs v3 ++ (obs v ++ fp) → W1.heap[b]? = W.heap[b]? := fun b hb => hm b (by have := (hge b hb).1; omega) (hl b hb)
  exact ⟨hd, (hm _ (by omega) (by omega)).trans h.k1, (hm _ (by omega) (by omega)).trans h.k2, (hm _ (by omega) (by omega)).trans h.k3, h.h3,
    own_move h.o3 (fun b hb => hmv b (by simp [obs_mem, hb])), own_move h.o4 (fun b hb => hmv b (by simp [obs_mem, hb])), h.tr.move _ (fun b hb => hmv b (by simp [hb])), h.nd, h.ge⟩
theorem Dp.later (h : Dp w0 w g s q O1 O2 g3 k n m sc ks v3 v inner fp W) (hb : Below W.heap.size W W1) : Dp w0 w g s q O1 O2 g3 k n m sc ks v3 v inner fp W1 := h.move (h.dr.later hb) (fun b _ hlt => hb.block b hlt)
theorem Dp.call (h : Dp w0 w g s q O1 O2 g3 k n m sc ks v3 v inner fp W) (h1 : IsRd w0 W1 g s q') (h2 : Below w0.heap.size w0 W1) (h3 : KeepBut W W1 g none) : Dp w0 w g s q' O1 O2 g3 k n m sc ks v3 v inner fp W1 :=
  h.move (h.dr.call h1 h2 h3) (fun b hb hlt => h3.2 b hlt (by have := h.dr.lt; omega) (by simp))
/-- The form's own cells are written: kind, name, number. -/
theorem Dp.put {j : Nat} {u : Value} {k' m' : Int} {n' : ByteArray} (h : Dp w0 w g s q O1 O2 g3 k n m sc ks v3 v inner fp W) (hj : (W.setCell ⟨g3, j, none⟩ u).heap[g3]? = some (.cells #[.int .i64 k', .string n', .int .i64 m', v3, v] 30 (0, 0))) : Dp w0 w g s q O1 O2 g3 k' n' m' sc ks v3 v inner fp (W.setCell ⟨g3, j, none⟩ u) := by
  have hge := h.ge
  have h3 := h.h3
  have hmv : ∀ b, b ≠ g3 → (W.setCell ⟨g3, j, none⟩ u).heap[b]? = W.heap[b]? := fun b hb => Below.heap_setCell _ _ _ _ (by exact hb)
  exact ⟨h.dr.put (by omega) u, (hmv _ (by omega)).trans h.k1, (hmv _ (by omega)).trans h.k2, hj, h3,
    own_move h.o3 (fun b hb => hmv b (hge b (by simp [obs_mem, hb])).2), own_move h.o4 (fun b hb => hmv b (hge b (by simp [obs_mem, hb])).2), h.tr.move _ (fun b hb => hmv b (hge b (by simp [hb])).2), h.nd, h.ge⟩
/-- The form gets other scopes: a row that is none of its parts'. -/
theorem Dp.scopes {u : Value} {sc' : List Int} {row : Option Nat} (h : Dp w0 w g s q O1 O2 g3 k n m sc ks v3 v inner fp W) (hg : W.grownBy W1 row) (hrow : ∀ b, row = some b → w.heap.size + 2 ≤ b ∧ b ≠ g3 ∧ b ∉ obs v ∧ b ∉ fp) (ho : W1.ownsRow 0 3 1 u sc'.length (encI sc')) (hu : ∀ b, u.ownBlock = some b → w.heap.size + 2 ≤ b ∧ b ≠ g3 ∧ b ∉ obs v ∧ b ∉ fp) :
    Dp w0 w g s q O1 O2 g3 k n m sc' ks u v inner fp (W1.setCell ⟨g3, 3, none⟩ u) := by
  have hl := h.lt
  have hls := h.lts
  have hge := h.ge
  have h3 := h.h3
  have hnd := h.nd
  simp only [List.nodup_append, List.mem_append] at hnd hge hl
  obtain ⟨n3, ⟨n4, n5, n45⟩, n345⟩ := hnd
  have hne : ∀ b, b < w.heap.size + 2 ∨ b = g3 ∨ b ∈ obs v ∨ b ∈ fp → some b ≠ row := by
    intro b hb he
    obtain ⟨r1, r2, r3, r4⟩ := hrow b he.symm
    rcases hb with hb | hb | hb | hb
    · omega
    · exact r2 hb
    · exact r3 hb
    · exact r4 hb
  have hmv : ∀ b, b < w.heap.size + 2 ∨ b ∈ obs v ∨ b ∈ fp → (W1.setCell ⟨g3, 3, none⟩ u).heap[b]? = W.heap[b]? := by
    intro b hb
    have hb2 : b < W.heap.size ∧ b ≠ g3 := by
      rcases hb with hb | hb | hb
      · exact ⟨by omega, by omega⟩
      · exact ⟨hl b (.inr (.inl hb)), (hge b (.inr (.inl hb))).2⟩
      · exact ⟨hl b (.inr (.inr hb)), (hge b (.inr (.inr hb))).2⟩
    rw [Below.heap_setCell _ _ _ _ (by exact hb2.2)]
    exact hg.block b hb2.1 (hne b (by rcases hb with hb | hb | hb <;> simp [hb]))
  refine ⟨(h.dr.grown hg (fun c hc => by have := (hrow c hc).1; omega)).put (by omega) u, (hmv _ (.inl (by omega))).trans h.k1, (hmv _ (.inl (by omega))).trans h.k2, ?_, h3, own_move ho (fun b hb => Below.heap_setCell _ _ _ _ (by exact (hu b hb).2.1)), own_move h.o4 (fun b hb => hmv b (.inr (.inl (obs_mem.2 hb)))), h.tr.move _ (fun b hb => hmv b (.inr (.inr hb))), ?_, ?_⟩
  · have := (hg.block g3 hls.2 (hne g3 (.inr (.inl rfl)))).trans h.k3
    simpa using blk_set this 3 u
  · simp only [List.nodup_append, List.mem_append]
    refine ⟨?_, ⟨n4, n5, n45⟩, fun a ha b hb e => ?_⟩
    · unfold obs
      cases u.ownBlock <;> simp
    · subst e
      have := hu a (obs_mem.1 ha)
      rcases hb with hb | hb
      · exact this.2.2.1 hb
      · exact this.2.2.2 hb
  · simp only [List.mem_append]
    intro b hb
    rcases hb with hb | hb | hb
    · have := hu b (obs_mem.1 hb); exact ⟨this.1, this.2.1⟩
    · exact hge b (.inr (.inl hb))
    · exact hge b (.inr (.inr hb))
/-- The form's own row of scopes is apart from its parts. -/
theorem Dp.own3 (h : Dp w0 w g s q O1 O2 g3 k n m sc ks v3 v inner fp W) : ∀ b, v3.ownBlock = some b → w.heap.size + 2 ≤ b ∧ b ≠ g3 ∧ b ∉ obs v ∧ b ∉ fp := by
  intro b hb
  have hge := h.ge b (by simp [obs_mem, hb])
  have hnd := h.nd
  simp only [List.nodup_append, List.mem_append] at hnd
  have hb3 : b ∈ obs v3 := obs_mem.2 hb
  exact ⟨hge.1, hge.2, fun hm => hnd.2.2 b hb3 b (.inl hm) rfl, fun hm => hnd.2.2 b hb3 b (.inr hm) rfl⟩
/-- A new block is none of the form's. -/
theorem Dp.fresh (h : Dp w0 w g s q O1 O2 g3 k n m sc ks v3 v inner fp W) {b : Nat} (hb : W.heap.size ≤ b) : w.heap.size + 2 ≤ b ∧ b ≠ g3 ∧ b ∉ obs v ∧ b ∉ fp := by
  have hl := h.lt
  have hls := h.lts
  refine ⟨by omega, by omega, fun hm => ?_, fun hm => ?_⟩
  · have := hl b (by simp [hm]); omega
  · have := hl b (by simp [hm]); omega
/-- One part of the form gives way to a form in new memory. -/
theorem Dp.kid {B : Nat} {y : Fm} {u3 u4 : Value} {gr cap : Nat} {a b : List Fm} {x : Fm} {ia ib : List Value} {z3 z4 : Value} {fa fx fb : List Nat}
    {N : Nat} (hN : N = ks.length) (h : Dp w0 w g s q O1 O2 g3 k n m sc ks v3 (.slice (some ⟨gr, 0, none⟩) N cap) inner fp W) (hks : ks = a ++ x :: b) (hin : inner = ia ++ ([.int .i64 x.f0, .string x.f1, .int .i64 x.f2, z3, z4] ++ ib)) (hfp : fp = fa ++ (fx ++ fb)) (ha : TrL W a ia fa) (hb : TrL W b ib fb)
    (hB : ∀ c, c ∈ obs v3 ++ (obs (.slice (some ⟨gr, 0, none⟩) N cap) ++ fp) → c < B) (hB3 : g3 < B) (hB2 : w.heap.size + 2 ≤ B) (hn : NewF B W y u3 u4) :
    ∃ fp', Dp w0 w g s q O1 O2 g3 k n m sc (a ++ y :: b) v3 (.slice (some ⟨gr, 0, none⟩) N cap) (ia ++ ([.int .i64 y.f0, .string y.f1, .int .i64 y.f2, u3, u4] ++ ib)) fp' (set5 W gr (a.length * 5) (.int .i64 y.f0) (.string y.f1) (.int .i64 y.f2) u3 u4) := by
  obtain ⟨fk, ht, hknd, hkge⟩ := hn
  have hl := h.lt
  have hls := h.lts
  have hge := h.ge
  have h3 := h.h3
  have hnd := h.nd
  have htl := ht.lt y
  subst hN hks hin hfp
  have hlen := ha.len
  obtain ⟨_, _, hput⟩ := row_put h.o4 hlen
  have hgr : gr ∈ obs (Value.slice (some ⟨gr, 0, none⟩) (a ++ x :: b).length cap) := by simp [obs, Value.ownBlock]
  have hob : ∀ c, c ∈ obs (Value.slice (some ⟨gr, 0, none⟩) (a ++ x :: b).length cap) → c = gr := by intro c hc; simpa [obs, Value.ownBlock] using hc
  simp only [List.nodup_append, List.mem_append] at hnd hge hl hB
  obtain ⟨n3, ⟨n4, ⟨na, ⟨nx, nb, nxb⟩, naxb⟩, n45⟩, n345⟩ := hnd
  have hgr3 := (hge gr (.inr (.inl hgr))).2
  have hmv : ∀ c, c ≠ gr → (set5 W gr (a.length * 5) (.int .i64 y.f0) (.string y.f1) (.int .i64 y.f2) u3 u4).heap[c]? = W.heap[c]? := fun c hc => set5_far _ _ _ _ _ _ _ _ c hc
  have hgw := (hge gr (.inr (.inl hgr))).1
  refine ⟨fa ++ (fk ++ fb), ((((h.dr.put (by omega) _).put (by omega) _).put (by omega) _).put (by omega) _).put (by omega) _, (hmv _ (by omega)).trans h.k1, (hmv _ (by omega)).trans h.k2, (hmv _ (by omega)).trans h.k3, h3, own_move h.o3 (fun c hc => hmv c (fun e => n345 c (obs_mem.2 hc) gr (.inl hgr) e)), ?_, ?_, ?_, ?_⟩
  · have := hput (.int .i64 y.f0) (.string y.f1) (.int .i64 y.f2) u3 u4
    simpa using this
  · refine (ha.move _ (fun c hc => hmv c (fun e => n45 gr hgr c (.inl hc) e.symm))).append ?_
    refine .cons y b u3 u4 ib fk fb (ht.move y (fun c hc => hmv c (fun e => ?_))) (hb.move _ (fun c hc => hmv c (fun e => n45 gr hgr c (.inr (.inr hc)) e.symm)))
    have h1 := hkge c hc
    have h2 := hB gr (.inr (.inl hgr))
    omega
  · simp only [List.nodup_append, List.mem_append]
    refine ⟨n3, ⟨n4, ⟨na, ⟨hknd, nb, fun c hc d hd e => ?_⟩, fun c hc d hd e => ?_⟩, fun c hc d hd e => ?_⟩, fun c hc d hd e => ?_⟩
    · have := hkge c hc; have := hB d (.inr (.inr (.inr (.inr hd)))); omega
    · rcases hd with hd | hd
      · have := hkge d hd; have := hB c (.inr (.inr (.inl hc))); omega
      · exact naxb c hc d (.inr hd) e
    · rcases hd with hd | hd | hd
      · exact n45 c hc d (.inl hd) e
      · have := hkge d hd; have := hB c (.inr (.inl hc)); omega
      · exact n45 c hc d (.inr (.inr hd)) e
    · rcases hd with hd | hd | hd | hd
      · exact n345 c hc d (.inl hd) e
      · exact n345 c hc d (.inr (.inl hd)) e
      · have := hkge d hd; have := hB c (.inl hc); omega
      · exact n345 c hc d (.inr (.inr (.inr hd))) e
  · simp only [List.mem_append]
    intro c hc
    rcases hc with hc | hc | hc | hc | hc
    · exact hge c (.inl hc)
    · exact hge c (.inr (.inl hc))
    · exact hge c (.inr (.inr (.inl hc)))
    · have := hkge c hc; exact ⟨by omega, by omega⟩
    · exact hge c (.inr (.inr (.inr (.inr hc))))
theorem Dp.newF (h : Dp w0 w g s q O1 O2 g3 k n m sc ks v3 v inner fp W) (hW : ∀ b, b ≠ w.heap.size + 1 → W1.heap[b]? = W.heap[b]?) : NewF w.heap.size W1 ⟨k, n, m, sc, ks⟩ v3 v := by
  have hge := h.ge
  refine ⟨_, .mk ⟨k, n, m, sc, ks⟩ v3 v inner fp (own_move h.o3 (fun b hb => hW b ?_)) (own_move h.o4 (fun b hb => hW b ?_)) (h.tr.move _ (fun b hb => hW b ?_)), h.nd, fun b hb => ?_⟩
  · have := hge b (by simp [obs_mem, hb]); omega
  · have := hge b (by simp [obs_mem, hb]); omega
  · have := hge b (by simp [hb]); omega
  · have := hge b hb; omega
/-- The copy of a form is laid into its variable. -/
theorem Dp.start {w1 : World} {x : Fm} (hd : Dr w0 w g s q w1) (hk1 : w1.heap[w.heap.size]? = some O1) (hk2 : w1.heap[w.heap.size + 1]? = some O2) (hn : NewF (w.heap.size + 2) w1 x v3 v) : ∃ inner fp, Dp w0 w g s q O1 O2 w1.heap.size x.f0 x.f1 x.f2 x.f3 x.f4 v3 v inner fp (w1.alloc (.cells #[.int .i64 x.f0, .string x.f1, .int .i64 x.f2, v3, v] 30 (0, 0))) := by
  obtain ⟨fp, ht, hnd, hge⟩ := hn
  have hb := below_new w1 (.cells #[.int .i64 x.f0, .string x.f1, .int .i64 x.f2, v3, v] 30 (0, 0))
  have hlt := ht.lt x
  have h2 := blk_lt hk2
  obtain ⟨inner, fk, rfl, o3, o4, hk⟩ := ht.open
  refine ⟨inner, fk, hd.later hb, blk_below hk1 hb, blk_below hk2 hb, blk_new _ _, by omega, own_move o3 (fun b hb2 => hb.block b (hlt b (by simp [obs_mem, hb2]))), own_move o4 (fun b hb2 => hb.block b (hlt b (by simp [obs_mem, hb2]))), hk.later hb, hnd, fun b hb2 => ⟨hge b hb2, by have := hlt b hb2; omega⟩⟩
end
end Go.Proofs.Ytcbomlmlindjdaa
end
section
namespace Go.Proofs.Ytcbomlmlindjdaa
set_option linter.unusedVariables false
mutual
/-- A form without scopes. -/
def Fm.bare : Fm → Fm
  | ⟨a, b, c, _, ks⟩ => ⟨a, b, c, [], bareL ks⟩
def bareL : List Fm → List Fm
  | [] => []
  | k :: ks => k.bare :: bareL ks
end
end Go.Proofs.Ytcbomlmlindjdaa
end
section
namespace Go.Proofs.Ytcbomlmlindjdaa
open Go.RowKit Go.Proofs.YtcbomlmlindjdaaW.PrintWords Go.Proofs.YtcbomlmlindjdaaW.PrintLast Go.Proofs.YtcbomlmlindjdaaW.PrintMore
set_option linter.unusedVariables false
set_option linter.unusedSimpArgs false
theorem scTot (x : Fm) : x.f3.length ≤ x.tot := by
  have := x.tot_eq; omega
set_option maxHeartbeats 4000000 in
set_option maxRecDepth 100000 in
theorem l1Copy_any : ∀ x : Fm, ∀ (A3 : Option Addr) (c3 : Nat) (A4 : Option Addr) (c4 : Nat) (w : World), FmIn w x A3 c3 A4 c4 → x.tot ≤ 1000000000 →
    Calls Try.prog 68 #[.agg #[.int .i64 x.f0, .string x.f1, .int .i64 x.f2, .slice A3 x.f3.length c3, .slice A4 x.f4.length c4]] w (RetF w x) := by
  intro x
  induction x using Fm.ind with
  | h x ih =>
    intro A3 c3 A4 c4 w hin ht
    have hmax := hin.g4.2.1
    have HI := Lib.hid hin
    have HT := Lib.hid ht
    have IH := Lib.hid ih
    clear hin ht ih
    go_enter Try.func68, Try.ntmps68
    go_wp2_with fail
    obtain ⟨kb1, kb2, hb0⟩ := two_new (w := w) (O1 := (.cells #[.int .i64 x.f0, .string x.f1, .int .i64 x.f2, .slice A3 x.f3.length c3, .slice A4 x.f4.length c4] 30)) (O2 := (.cells #[.int .i64 0, .string ⟨#[]⟩, .int .i64 0, .slice none 0 0, .slice none 0 0] 30)) (Below.refl _ _).drew
    obtain ⟨p0, p1, p2, p3, p4⟩ := fm_cells kb1
    refine start_ (n := 13) (S := fun w' => w'.cell? ⟨w.heap.size, 0, none⟩ = some (.int .i64 x.f0) ∧ w'.cell? ⟨w.heap.size, 1, none⟩ = some (.string x.f1) ∧ w'.cell? ⟨w.heap.size, 2, none⟩ = some (.int .i64 x.f2) ∧ w'.cell? ⟨w.heap.size, 3, none⟩ = some (.slice A3 x.f3.length c3)) (ds := []) #[false, false, false, false, false, false, false, false, false, false, false, false, false] (by kernel_rfl) rfl rfl ⟨p0, p1, p2, p3⟩ (fun hHeld => ?_)
    have hsz : w.heap.size + 2 ≤ (((w.alloc (.cells #[.int .i64 x.f0, .string x.f1, .int .i64 x.f2, .slice A3 x.f3.length c3, .slice A4 x.f4.length c4] 30)).alloc (.cells #[.int .i64 0, .string ⟨#[]⟩, .int .i64 0, .slice none 0 0, .slice none 0 0] 30)).drew).heap.size := by simp
    generalize World.drew _ = w5 at kb1 kb2 hb0 hsz p0 p1 p2 p3 p4 hHeld ⊢
    have P0 := Lib.hid p0
    have P1 := Lib.hid p1
    have P2 := Lib.hid p2
    have P3 := Lib.hid p3
    have KB1 := Lib.hid kb1
    have KB2 := Lib.hid kb2
    have HB0 := Lib.hid hb0
    have HSZ := Lib.hid hsz
    clear p0 p1 p2 p3 p4 kb1 kb2 hb0 hsz
    refine pure_ (i := 0) (N := some 5) (v := ?_) (a' := ?_) #[true, false, false, false, false, false, false, false, false, false, false, false, false] rfl rfl (by kernel_rfl) (fun _ _ _ h => h) (Or.inl ⟨by rfl, ?_⟩) ?_ ?_
    rotate_left
    · intro w'
      go_simp
      with_reducible rfl
    rotate_left
    · simp only [Act.put, List.setIfInBounds_toArray, List.set_cons_zero, List.set_cons_succ, i64_w, i32_w]
      rfl
    refine pure_ (i := 2) (N := some 7) (v := ?_) (a' := ?_) #[true, false, true, false, false, false, false, false, false, false, false, false, false] rfl rfl (by kernel_rfl) (fun _ _ _ h => h) (Or.inl ⟨by rfl, ?_⟩) ?_ ?_
    rotate_left
    · intro w'
      go_simp
      with_reducible rfl
    rotate_left
    · simp only [Act.put, List.setIfInBounds_toArray, List.set_cons_zero, List.set_cons_succ, i64_w, i32_w]
      rfl
    refine pure_ (i := 4) (N := some 9) (v := ?_) (a' := ?_) #[true, false, true, false, true, false, false, false, false, false, false, false, false] rfl rfl (by kernel_rfl) (fun _ _ _ h => h) (Or.inl ⟨by rfl, ?_⟩) ?_ ?_
    rotate_left
    · intro w'
      go_simp
      with_reducible rfl
    rotate_left
    · simp only [Act.put, List.setIfInBounds_toArray, List.set_cons_zero, List.set_cons_succ, i64_w, i32_w]
      rfl
    refine pure_ (i := 7) (N := some 12) (v := ?_) (a' := ?_) #[true, false, true, false, true, false, false, true, false, false, false, false, false] rfl rfl (by kernel_rfl) (fun _ _ _ h => h) (Or.inl ⟨by rfl, ?_⟩) ?_ ?_
    rotate_left
    · intro w'
      go_simp
      with_reducible rfl
    rotate_left
    · simp only [Act.put, List.setIfInBounds_toArray, List.set_cons_zero, List.set_cons_succ, i64_w, i32_w]
      rfl
    refine take_ (i := 1) (N := some 6) (v := ?_) (a' := ?_) #[true, true, true, false, true, false, false, true, false, false, false, false, false] rfl rfl (by kernel_rfl) (fun _ _ _ h => h) (Or.inl ⟨by rfl, ?_⟩) hHeld ?_ ?_
    rotate_left
    · rintro w' ⟨s0, s1, s2, s3⟩
      go_simp
      with_reducible rfl
    rotate_left
    · simp only [Act.put, List.setIfInBounds_toArray, List.set_cons_zero, List.set_cons_succ, i64_w, i32_w]
      rfl
    refine take_ (i := 3) (N := some 8) (v := ?_) (a' := ?_) #[true, true, true, true, true, false, false, true, false, false, false, false, false] rfl rfl (by kernel_rfl) (fun _ _ _ h => h) (Or.inl ⟨by rfl, ?_⟩) hHeld ?_ ?_
    rotate_left
    · rintro w' ⟨s0, s1, s2, s3⟩
      go_simp
      with_reducible rfl
    rotate_left
    · simp only [Act.put, List.setIfInBounds_toArray, List.set_cons_zero, List.set_cons_succ, i64_w, i32_w]
      rfl
    refine take_ (i := 5) (N := some 10) (v := ?_) (a' := ?_) #[true, true, true, true, true, true, false, true, false, false, false, false, false] rfl rfl (by kernel_rfl) (fun _ _ _ h => h) (Or.inl ⟨by rfl, ?_⟩) hHeld ?_ ?_
    rotate_left
    · rintro w' ⟨s0, s1, s2, s3⟩
      go_simp
      with_reducible rfl
    rotate_left
    · simp only [Act.put, List.setIfInBounds_toArray, List.set_cons_zero, List.set_cons_succ, i64_w, i32_w]
      rfl
    refine take_ (i := 8) (N := some 13) (v := ?_) (a' := ?_) #[true, true, true, true, true, true, false, true, true, false, false, false, false] rfl rfl (by kernel_rfl) (fun _ _ _ h => h) (Or.inl ⟨by rfl, ?_⟩) hHeld ?_ ?_
    rotate_left
    · rintro w' ⟨s0, s1, s2, s3⟩
      go_simp
      with_reducible rfl
    rotate_left
    · simp only [Act.put, List.setIfInBounds_toArray, List.set_cons_zero, List.set_cons_succ, i64_w, i32_w]
      rfl
    refine join_ (σ := Value × Value × Nat) 1 #[true, true, true, true, true, true, true, true, true, true, true, true, false] (fun s_ => [(11, s_.1), (14, s_.2.1), (3, .pointer (some ⟨s_.2.2, 0, none⟩)), (15, .agg #[.int .i64 x.f0, .string x.f1, .int .i64 x.f2, s_.2.1, .slice none 0 0])]) (fun s_ w' => Below w5.heap.size w5 w' ∧ kI.R 3 w' w5.heap.size (fun _ => True) s_.2.1 x.f3 ∧ w'.heap[s_.2.2]? = some (.cells #[.int .i64 0, .string ⟨#[]⟩, .int .i64 0, .slice none 0 0, .slice none 0 0] 30) ∧ w5.heap.size ≤ s_.2.2) ?_ ?_
    rotate_left
    · intro hCont
      refine two_ (i := 6) (j := 11) (Ni := some 11) (Nj := some 3) #[true, true, true, true, true, true, true, true, true, false, false, false, false] #[true, true, true, true, true, true, false, true, true, false, false, true, false] rfl rfl rfl rfl (by kernel_rfl) (by decide) (by decide) (fun K hK => ?_) (fun K hK => ?_)
      · refine Kd.R_lit_step (Kd.int .i64) _ 3 ?hg (N := 11) ?hd (xs := ([] : List Int)) (inner := []) (ok := fun _ => True) (okp := fun _ => True) ?hr ?hp (fun _ hk => hk) trivial (Below.refl _ _) (Nat.le_refl _) (by simp) ?_; (case hd => rfl); (case hg => rfl); (case hr => first | (go_simp; done) | (go_simp; rfl)); (case hp => exact (Reps.none _ _))
        intro v0 w6 ho0 hb6 hg6 hn6
        clear hg6 hn6
        refine hK.out _ _ ⟨ck0 hb6 P0.out, ck0 hb6 P1.out, ck0 hb6 P2.out, ck0 hb6 P3.out⟩ (fun hHeld => ?_)
        clear hK K
        refine norm_ (a' := ?_) ?_ ?_
        rotate_left
        · show Act.put _ (some 11) _ = _
          simp only [Act.put, List.setIfInBounds_toArray, List.set_cons_zero, List.set_cons_succ, i64_w, i32_w]
          rfl
        refine two_ (i := 9) (j := 11) (Ni := some 14) (Nj := some 3) #[true, true, true, true, true, true, true, true, true, true, false, false, false] #[true, true, true, true, true, true, true, true, true, false, false, true, false] rfl rfl rfl rfl (by kernel_rfl) (by decide) (by decide) (fun K hK => ?_) (fun K hK => ?_)
        · refine Kd.R_append_rows_step (Kd.int .i64) (w0 := w5) w5.heap.size (by rfl) (.tmp 11) (.tmp 13) 27 3 (.int .i64 0) 8 rfl Try.underlying27 infoI rfl (by decide) (by omega) v0 [] x.f3 _ _ _ (fun _ => True) (fun _ => False) rfl rfl ho0 (Kd.C_below HI.out.g3 (below_step HB0.out hb6)) (fun _ _ h => h) (fun _ h => h.elim) (fun _ _ => trivial) hb6 hb6.size (by have := HT.out; have := scTot x; simp; omega) ?_
          intro v3 w7 ho3 hb7 hg7 hat7
          rw [List.nil_append] at ho3
          obtain ⟨D3, e3, rfl⟩ := Kd.R_slice ho3
          refine hK.out _ _ ⟨ck0 hb7 P0.out, ck0 hb7 P1.out, ck0 hb7 P2.out, ck0 hb7 P3.out⟩ (fun hHeld => ?_)
          clear hK K
          refine norm_ (a' := ?_) ?_ ?_
          rotate_left
          · show Act.put _ (some 14) _ = _
            simp only [Act.put, List.setIfInBounds_toArray, List.set_cons_zero, List.set_cons_succ, i64_w, i32_w]
            rfl
          refine pure_ (i := 10) (N := some 15) (v := ?_) (a' := ?_) #[true, true, true, true, true, true, true, true, true, true, true, false, false] rfl rfl (by kernel_rfl) (fun _ _ _ h => h) (Or.inl ⟨by rfl, ?_⟩) ?_ ?_
          rotate_left
          · intro w'
            go_simp
            with_reducible rfl
          rotate_left
          · simp only [Act.put, List.setIfInBounds_toArray, List.set_cons_zero, List.set_cons_succ, i64_w, i32_w]
            rfl
          refine one_ (i := 11) (N := some 3) #[true, true, true, true, true, true, true, true, true, true, true, true, false] rfl rfl (by kernel_rfl) (by decide) (fun K hK => ?_)
          refine box_step ?hg (N := 3) ?hd (cs := #[.int .i64 0, .string ⟨#[]⟩, .int .i64 0, .slice none 0 0, .slice none 0 0]) (t := 30) ?hr ?_; (case hd => rfl); (case hg => rfl); (case hr => first | (go_simp; done) | (go_simp; rfl))
          intro g3 hg w8 hbox hb8
          have hb9 := below_step hb7 hb8
          refine hK.out _ _ ⟨ck0 hb9 P0.out, ck0 hb9 P1.out, ck0 hb9 P2.out, ck0 hb9 P3.out⟩ (fun hHeld => ?_)
          clear hK K
          refine norm_ (a' := ?_) ?_ ?_
          rotate_left
          · show Act.put _ (some 3) _ = _
            simp only [Act.put, List.setIfInBounds_toArray, List.set_cons_zero, List.set_cons_succ, i64_w, i32_w]
            rfl
          exact norm_ (by simp only [putAll, Act.put, List.setIfInBounds_toArray, List.set_cons_zero, List.set_cons_succ]) (hCont (v0, .slice D3 x.f3.length e3, g3) _ ⟨hb9, Kd.R_below ho3 hb8, hbox, hg ▸ hb7.size⟩)
        · refine box_step ?hg (N := 3) ?hd (cs := #[.int .i64 0, .string ⟨#[]⟩, .int .i64 0, .slice none 0 0, .slice none 0 0]) (t := 30) ?hr ?_; (case hd => rfl); (case hg => rfl); (case hr => first | (go_simp; done) | (go_simp; rfl))
          intro g3 hg w7 hbox hb7
          have hb8 := below_step hb6 hb7
          have ho8 := Kd.R_below ho0 hb7
          have hne := Kd.R_ne ho8 hbox (by decide)
          refine hK.out _ _ ⟨ck0 hb8 P0.out, ck0 hb8 P1.out, ck0 hb8 P2.out, ck0 hb8 P3.out⟩ (fun hHeld => ?_)
          clear hK K
          refine norm_ (a' := ?_) ?_ ?_
          rotate_left
          · show Act.put _ (some 3) _ = _
            simp only [Act.put, List.setIfInBounds_toArray, List.set_cons_zero, List.set_cons_succ, i64_w, i32_w]
            rfl
          refine one_ (i := 9) (N := some 14) #[true, true, true, true, true, true, true, true, true, true, false, true, false] rfl rfl (by kernel_rfl) (by decide) (fun K hK => ?_)
          refine Kd.R_append_rows_step (Kd.int .i64) (w0 := w5) w5.heap.size (by rfl) (.tmp 11) (.tmp 13) 27 3 (.int .i64 0) 8 rfl Try.underlying27 infoI rfl (by decide) (by omega) v0 [] x.f3 _ _ _ (fun _ => True) (fun _ => False) rfl rfl ho8 (Kd.C_below HI.out.g3 (below_step HB0.out hb8)) (fun _ _ h => h) (fun _ h => h.elim) (fun _ _ => trivial) hb8 hb8.size (by have := HT.out; have := scTot x; simp; omega) ?_
          intro v3 w9 ho3 hb9 hg9 hat9
          rw [List.nil_append] at ho3
          obtain ⟨D3, e3, rfl⟩ := Kd.R_slice ho3
          refine hK.out _ _ ⟨ck0 hb9 P0.out, ck0 hb9 P1.out, ck0 hb9 P2.out, ck0 hb9 P3.out⟩ (fun hHeld => ?_)
          clear hK K
          refine norm_ (a' := ?_) ?_ ?_
          rotate_left
          · show Act.put _ (some 14) _ = _
            simp only [Act.put, List.setIfInBounds_toArray, List.set_cons_zero, List.set_cons_succ, i64_w, i32_w]
            rfl
          refine pure_ (i := 10) (N := some 15) (v := ?_) (a' := ?_) #[true, true, true, true, true, true, true, true, true, true, true, true, false] rfl rfl (by kernel_rfl) (fun _ _ _ h => h) (Or.inl ⟨by rfl, ?_⟩) ?_ ?_
          rotate_left
          · intro w'
            go_simp
            with_reducible rfl
          rotate_left
          · simp only [Act.put, List.setIfInBounds_toArray, List.set_cons_zero, List.set_cons_succ, i64_w, i32_w]
            rfl
          exact norm_ (by simp only [putAll, Act.put, List.setIfInBounds_toArray, List.set_cons_zero, List.set_cons_succ]) (hCont (v0, .slice D3 x.f3.length e3, g3) _ ⟨hb9, ho3, blk_grown hbox hg9 hne, hg ▸ hb6.size⟩)
      · refine box_step ?hg (N := 3) ?hd (cs := #[.int .i64 0, .string ⟨#[]⟩, .int .i64 0, .slice none 0 0, .slice none 0 0]) (t := 30) ?hr ?_; (case hd => rfl); (case hg => rfl); (case hr => first | (go_simp; done) | (go_simp; rfl))
        intro g3 hg w6 hbox hb6
        refine hK.out _ _ ⟨ck0 hb6 P0.out, ck0 hb6 P1.out, ck0 hb6 P2.out, ck0 hb6 P3.out⟩ (fun hHeld => ?_)
        clear hK K
        refine norm_ (a' := ?_) ?_ ?_
        rotate_left
        · show Act.put _ (some 3) _ = _
          simp only [Act.put, List.setIfInBounds_toArray, List.set_cons_zero, List.set_cons_succ, i64_w, i32_w]
          rfl
        refine one_ (i := 6) (N := some 11) #[true, true, true, true, true, true, true, true, true, false, false, true, false] rfl rfl (by kernel_rfl) (by decide) (fun K hK => ?_)
        refine Kd.R_lit_step (Kd.int .i64) _ 3 ?hg (N := 11) ?hd (xs := ([] : List Int)) (inner := []) (ok := fun _ => True) (okp := fun _ => True) ?hr ?hp (fun _ hk => hk) trivial (Below.refl _ _) (Nat.le_refl _) (by simp) ?_; (case hd => rfl); (case hg => rfl); (case hr => first | (go_simp; done) | (go_simp; rfl)); (case hp => exact (Reps.none _ _))
        intro v0 w7 ho0 hb7 hg7 hn7
        have hbox7 := blk_below hbox hb7
        have hb8 := below_step hb6 hb7
        have ho8 := Kd.R_lower ho0 hb6.size
        have hne := Kd.R_ne ho0 hbox7 (by decide)
        refine hK.out _ _ ⟨ck0 hb8 P0.out, ck0 hb8 P1.out, ck0 hb8 P2.out, ck0 hb8 P3.out⟩ (fun hHeld => ?_)
        clear hK K
        refine norm_ (a' := ?_) ?_ ?_
        rotate_left
        · show Act.put _ (some 11) _ = _
          simp only [Act.put, List.setIfInBounds_toArray, List.set_cons_zero, List.set_cons_succ, i64_w, i32_w]
          rfl
        refine one_ (i := 9) (N := some 14) #[true, true, true, true, true, true, true, true, true, true, false, true, false] rfl rfl (by kernel_rfl) (by decide) (fun K hK => ?_)
        refine Kd.R_append_rows_step (Kd.int .i64) (w0 := w5) w5.heap.size (by rfl) (.tmp 11) (.tmp 13) 27 3 (.int .i64 0) 8 rfl Try.underlying27 infoI rfl (by decide) (by omega) v0 [] x.f3 _ _ _ (fun _ => True) (fun _ => False) rfl rfl ho8 (Kd.C_below HI.out.g3 (below_step HB0.out hb8)) (fun _ _ h => h) (fun _ h => h.elim) (fun _ _ => trivial) hb8 hb8.size (by have := HT.out; have := scTot x; simp; omega) ?_
        intro v3 w9 ho3 hb9 hg9 hat9
        rw [List.nil_append] at ho3
        obtain ⟨D3, e3, rfl⟩ := Kd.R_slice ho3
        refine hK.out _ _ ⟨ck0 hb9 P0.out, ck0 hb9 P1.out, ck0 hb9 P2.out, ck0 hb9 P3.out⟩ (fun hHeld => ?_)
        clear hK K
        refine norm_ (a' := ?_) ?_ ?_
        rotate_left
        · show Act.put _ (some 14) _ = _
          simp only [Act.put, List.setIfInBounds_toArray, List.set_cons_zero, List.set_cons_succ, i64_w, i32_w]
          rfl
        refine pure_ (i := 10) (N := some 15) (v := ?_) (a' := ?_) #[true, true, true, true, true, true, true, true, true, true, true, true, false] rfl rfl (by kernel_rfl) (fun _ _ _ h => h) (Or.inl ⟨by rfl, ?_⟩) ?_ ?_
        rotate_left
        · intro w'
          go_simp
          with_reducible rfl
        rotate_left
        · simp only [Act.put, List.setIfInBounds_toArray, List.set_cons_zero, List.set_cons_succ, i64_w, i32_w]
          rfl
        exact norm_ (by simp only [putAll, Act.put, List.setIfInBounds_toArray, List.set_cons_zero, List.set_cons_succ]) (hCont (v0, .slice D3 x.f3.length e3, g3) _ ⟨hb9, ho3, blk_grown hbox7 hg9 hne, Nat.le_of_eq hg.symm⟩)
    rintro ⟨v0, v3, g3⟩ wz ⟨hbz, ho3, hbox, hg3⟩
    dsimp only at ho3 hbox hg3
    have hHeld : True := trivial
    refine norm_ (a' := ?_) ?_ ?_
    rotate_left
    · simp only [putAll, Act.put, List.setIfInBounds_toArray, List.set_cons_zero, List.set_cons_succ]
      rfl
    have K1z := blk_below KB1.out hbz
    have hl1 := blk_lt KB1.out
    have hne3 := Kd.R_ne ho3 hbox (by decide)
    obtain ⟨D3, e3, rfl⟩ := Kd.R_slice ho3
    obtain ⟨st1, st2, st3⟩ := st5 hbox (.int .i64 x.f0) (.string x.f1) (.int .i64 x.f2) (.slice D3 x.f3.length e3) (.slice none 0 0)
    have hS5 := fm_cells ((st2 w.heap.size (by omega)).trans K1z)
    have HCP := Lib.hid (Cp.start (w := w) KB1.out KB2.out HB0.out HSZ.out hbz ho3 hg3 hne3 st1 st2 (st3 _ _ hbz hg3))
    obtain ⟨z0, z1, z2, z3, z4⟩ := fm_cells hbox
    obtain ⟨f0, f1, f2, f3, f4⟩ := fm_free hbox
    clear hbz ho3 hbox hg3 K1z hl1 hne3 st1 st2 st3 KB1 KB2 HB0 HSZ P0 P1 P2 P3
    refine one_ (i := 12) (N := none) #[true, true, true, true, true, true, true, true, true, true, true, true, true] rfl rfl (by kernel_rfl) (by decide) (fun K hK => ?_)
    refine skip_ (w1 := ?_) (by rfl) rfl ?_ ?_
    rotate_left
    · go_simp
      rfl
    refine hK.out _ _ ⟨hS5.1, hS5.2.1, hS5.2.2.1, hS5.2.2.2.1⟩ (fun hHeld => ?_)
    clear hK K z0 z1 z2 z3 z4 f0 f1 f2 f3 f4 hS5
    refine done_ (by kernel_rfl) ?_
    try go_wp2_with fail
    go_loopg [4] x.f4.length (fun kq v4 w' => ∃ i : Nat, i ≤ x.f4.length ∧ x.f4.length - i ≤ kq ∧ v4 = .int .i64 i ∧ Aside0 (∃ v inner fp, Cp w (.cells #[.int .i64 x.f0, .string x.f1, .int .i64 x.f2, .slice A3 x.f3.length c3, .slice A4 x.f4.length c4] 30) (.cells #[.int .i64 0, .string ⟨#[]⟩, .int .i64 0, .slice none 0 0, .slice none 0 0] 30) g3 x.f0 x.f1 x.f2 x.f3 (x.f4.take i) (.slice D3 x.f3.length e3) v inner fp w'))
    case atStart => exact ⟨0, Nat.zero_le _, by omega, rfl, ⟨⟨.slice none 0 0, [], [], by simpa using HCP.out⟩⟩⟩
    case round =>
      obtain ⟨i, hi, hg, rfl, HO⟩ := hrel
      by_cases hlt : i < x.f4.length
      · obtain ⟨v, inner, fp, hC⟩ := HO.out
        obtain ⟨p0, p1, p2, p3, p4⟩ := fm_cells hC.fr.k1
        obtain ⟨ad, G3, m3, G4, m4, e, g0, g1, g2, g3_, g4, hk⟩ := kid_at HI.out.g4 i hlt
        subst e
        have hkt := totL_mem (List.getElem_mem hlt)
        have hxt := HT.out
        rw [Fm.tot_eq] at hxt
        have r1 : (0 : Int) ≤ (i : Int) := by omega
        have r2 : (i : Int) < (x.f4.length : Int) := by omega
        have hlen := len_totL x.f4
        have HKT := Lib.hid (show x.f4[i].tot ≤ 1000000000 by omega)
        have HLN := Lib.hid (show x.f4.length ≤ 1000000000 by omega)
        have HK := Lib.hid hk
        have HC := Lib.hid hC
        have SK := Lib.hid (fun (W : World) (hf : Fr w (.cells #[.int .i64 x.f0, .string x.f1, .int .i64 x.f2, .slice A3 x.f3.length c3, .slice (some ad) x.f4.length c4] 30) (.cells #[.int .i64 0, .string ⟨#[]⟩, .int .i64 0, .slice none 0 0, .slice none 0 0] 30) g3 #[.int .i64 x.f0, .string x.f1, .int .i64 x.f2, (.slice D3 x.f3.length e3), v] W) => (⟨(fm_cells hf.k1).2.2.2.2, (fm_cells hf.k3).2.2.2.2, ck0 hf.b g0, ck0 hf.b g1, ck0 hf.b g2, ck0 hf.b g3_, ck0 hf.b g4⟩ : (fun w' => w'.cell? ⟨w.heap.size, 4, none⟩ = some (.slice (some ad) x.f4.length c4) ∧ w'.cell? ⟨g3, 4, none⟩ = some v ∧ w'.cell? (ad.add (i * 5)) = some (.int .i64 x.f4[i].f0) ∧ w'.cell? ⟨(ad.add (i * 5)).block, (ad.add (i * 5)).off + 1, none⟩ = some (.string x.f4[i].f1) ∧ w'.cell? ⟨(ad.add (i * 5)).block, (ad.add (i * 5)).off + 2, none⟩ = some (.int .i64 x.f4[i].f2) ∧ w'.cell? ⟨(ad.add (i * 5)).block, (ad.add (i * 5)).off + 3, none⟩ = some (.slice G3 x.f4[i].f3.length m3) ∧ w'.cell? ⟨(ad.add (i * 5)).block, (ad.add (i * 5)).off + 4, none⟩ = some (.slice G4 x.f4[i].f4.length m4)) W))
        clear hC hk p0 p1 p2 p3 hkt hxt hlen g0 g1 g2 g3_ g4
        go_wp2_with fail
        have HD := Lib.hid (HC.out.later (below_drew (Below.refl _ _)))
        refine start_ (n := 12) (S := fun w' => w'.cell? ⟨w.heap.size, 4, none⟩ = some (.slice (some ad) x.f4.length c4) ∧ w'.cell? ⟨g3, 4, none⟩ = some v ∧ w'.cell? (ad.add (i * 5)) = some (.int .i64 x.f4[i].f0) ∧ w'.cell? ⟨(ad.add (i * 5)).block, (ad.add (i * 5)).off + 1, none⟩ = some (.string x.f4[i].f1) ∧ w'.cell? ⟨(ad.add (i * 5)).block, (ad.add (i * 5)).off + 2, none⟩ = some (.int .i64 x.f4[i].f2) ∧ w'.cell? ⟨(ad.add (i * 5)).block, (ad.add (i * 5)).off + 3, none⟩ = some (.slice G3 x.f4[i].f3.length m3) ∧ w'.cell? ⟨(ad.add (i * 5)).block, (ad.add (i * 5)).off + 4, none⟩ = some (.slice G4 x.f4[i].f4.length m4)) (ds := [11]) #[false, false, false, false, false, false, false, false, false, false, false, false] (by kernel_rfl) rfl rfl (SK.out _ HD.out.fr) (fun hHeld => ?_)
        clear p4
        generalize wr.drew = wd at HD hHeld ⊢
        refine pure_ (i := 0) (N := some 23) (v := ?_) (a' := ?_) #[true, false, false, false, false, false, false, false, false, false, false, false] rfl rfl (by kernel_rfl) (fun _ _ _ h => h) (Or.inl ⟨by rfl, ?_⟩) ?_ ?_
        rotate_left
        · intro w'
          go_simp
          with_reducible rfl
        rotate_left
        · simp only [Act.put, List.setIfInBounds_toArray, List.set_cons_zero, List.set_cons_succ, i64_w, i32_w]
          rfl
        refine pure_ (i := 2) (N := some 25) (v := ?_) (a' := ?_) #[true, false, true, false, false, false, false, false, false, false, false, false] rfl rfl (by kernel_rfl) (fun _ _ _ h => h) (Or.inl ⟨by rfl, ?_⟩) ?_ ?_
        rotate_left
        · intro w'
          go_simp
          with_reducible rfl
        rotate_left
        · simp only [Act.put, List.setIfInBounds_toArray, List.set_cons_zero, List.set_cons_succ, i64_w, i32_w]
          rfl
        refine pure_ (i := 4) (N := some 27) (v := ?_) (a' := ?_) #[true, false, true, false, true, false, false, false, false, false, false, false] rfl rfl (by kernel_rfl) (fun _ _ _ h => h) (Or.inl ⟨by rfl, ?_⟩) ?_ ?_
        rotate_left
        · intro w'
          go_simp
          with_reducible rfl
        rotate_left
        · simp only [Act.put, List.setIfInBounds_toArray, List.set_cons_zero, List.set_cons_succ, i64_w, i32_w]
          rfl
        refine take_ (i := 1) (N := some 24) (v := ?_) (a' := ?_) #[true, true, true, false, true, false, false, false, false, false, false, false] rfl rfl (by kernel_rfl) (fun _ _ _ h => h) (Or.inl ⟨by rfl, ?_⟩) hHeld ?_ ?_
        rotate_left
        · rintro w' ⟨s0, s1, s2, s3, s4, s5, s6⟩
          go_simp
          with_reducible rfl
        rotate_left
        · simp only [Act.put, List.setIfInBounds_toArray, List.set_cons_zero, List.set_cons_succ, i64_w, i32_w]
          rfl
        refine take_ (i := 3) (N := some 26) (v := ?_) (a' := ?_) #[true, true, true, true, true, false, false, false, false, false, false, false] rfl rfl (by kernel_rfl) (fun _ _ _ h => h) (Or.inl ⟨by rfl, ?_⟩) hHeld ?_ ?_
        rotate_left
        · rintro w' ⟨s0, s1, s2, s3, s4, s5, s6⟩
          go_simp
          with_reducible rfl
        rotate_left
        · simp only [Act.put, List.setIfInBounds_toArray, List.set_cons_zero, List.set_cons_succ, i64_w, i32_w]
          rfl
        refine pure_ (i := 5) (N := some 28) (v := ?_) (a' := ?_) #[true, true, true, true, true, true, false, false, false, false, false, false] rfl rfl (by kernel_rfl) (fun _ _ _ h => h) (Or.inl ⟨by rfl, ?_⟩) ?_ ?_
        rotate_left
        · intro w'
          go_simp
          with_reducible rfl
        rotate_left
        · simp only [Act.put, List.setIfInBounds_toArray, List.set_cons_zero, List.set_cons_succ, i64_w, i32_w]
          rfl
        refine take_ (i := 6) (N := some 29) (v := ?_) (a' := ?_) #[true, true, true, true, true, true, true, false, false, false, false, false] rfl rfl (by kernel_rfl) (fun _ _ _ h => h) (Or.inl ⟨by rfl, ?_⟩) hHeld ?_ ?_
        rotate_left
        · rintro w' ⟨s0, s1, s2, s3, s4, s5, s6⟩
          go_simp
          with_reducible rfl
        rotate_left
        · simp only [Act.put, List.setIfInBounds_toArray, List.set_cons_zero, List.set_cons_succ, i64_w, i32_w]
          rfl
        refine one_ (i := 7) (N := some 30) #[true, true, true, true, true, true, true, true, false, false, false, false] rfl rfl (by kernel_rfl) (by decide) (fun K hK => ?_)
        refine goes_ Try.func68 (by kernel_rfl) rfl #[.agg #[.int .i64 x.f4[i].f0, .string x.f4[i].f1, .int .i64 x.f4[i].f2, .slice G3 x.f4[i].f3.length m3, .slice G4 x.f4[i].f4.length m4]] (by rfl) rfl rfl (by (try simp only [List.map_toArray, List.map_cons, List.map_nil]); first | done | rfl) ?_
        refine (IH.out x.f4[i] (List.getElem_mem hlt) G3 m3 G4 m4 wd (HK.out.below HD.out.fr.b) HKT.out).mono ?_
        rintro e w7 ⟨u3, u4, rfl, hn, hb7⟩
        refine ⟨_, rfl, ?_⟩
        obtain ⟨J3, q3, J4, q4, rfl, rfl⟩ : ∃ J3 q3 J4 q4, u3 = .slice J3 (x.f4[i]).f3.length q3 ∧ u4 = .slice J4 (x.f4[i]).f4.length q4 := by
          obtain ⟨fk, hk2, _⟩ := hn
          obtain ⟨J3, q3, J4, q4, e3, e4, _⟩ := hk2.In
          exact ⟨J3, q3, J4, q4, e3, e4⟩
        have H7 := Lib.hid (HD.out.later hb7)
        have HN := Lib.hid hn
        have HLT := Lib.hid (And.intro HD.out.lt HD.out.fr.lt)
        clear hn hb7
        refine hK.out _ _ (SK.out _ H7.out.fr) (fun hHeld => ?_)
        clear hK K
        refine norm_ (a' := ?_) ?_ ?_
        rotate_left
        · show Act.put _ (some 30) _ = _
          simp only [Act.put, List.setIfInBounds_toArray, List.set_cons_zero, List.set_cons_succ, i64_w, i32_w]
          rfl
        refine one_ (i := 8) (N := some 31) #[true, true, true, true, true, true, true, true, true, false, false, false] rfl rfl (by kernel_rfl) (by decide) (fun K hK => ?_)
        refine value_ (w1 := ?_) (v := ?_) (by rfl) rfl ?_ ?_
        rotate_left 2
        · go_simp
          constructor
          · rfl
          · rfl
        refine hK.out _ _ (SK.out _ (H7.out.fr.later (below_new _ _))) (fun hHeld => ?_)
        clear hK K
        refine norm_ (a' := ?_) ?_ ?_
        rotate_left
        · show Act.put _ (some 31) _ = _
          simp only [Act.put, List.setIfInBounds_toArray, List.set_cons_zero, List.set_cons_succ, i64_w, i32_w]
          rfl
        refine one_ (i := 9) (N := some 32) #[true, true, true, true, true, true, true, true, true, true, false, false] rfl rfl (by kernel_rfl) (by decide) (fun K hK => ?_)
        have hl0 : (x.f4.take i).length = i := by simp; omega
        refine step_append_cells (w0 := w) (W := w7) w.heap.size (by rfl) (.tmp 24) (.tmp 31) 28 30 (.agg #[.int .i64 0, .string ⟨#[]⟩, .int .i64 0, .slice none 0 0, .slice none 0 0]) 5 80 rfl Try.underlying28 infoF rfl (by decide) (by omega) v (x.f4.take i).length inner [.int .i64 (x.f4[i]).f0, .string (x.f4[i]).f1, .int .i64 (x.f4[i]).f2, .slice J3 (x.f4[i]).f3.length q3, .slice J4 (x.f4[i]).f4.length q4] rfl rfl rfl (by simp [Value.oneCell']) (own_base_ H7.out.o4 (fun b hb => by have := (H7.out.ge b (by simp [obs_mem, hb])).1; omega)) H7.out.fr.b H7.out.fr.b.size (by have := HLN.out; rw [hl0]; omega) ?_
        intro v' w8 ho hb8 hg8 hat8
        obtain ⟨fp', hC8⟩ := H7.out.more HLT.out.1 HLT.out.2.2 HLT.out.2.1 HN.out (own_weaken ho (Nat.zero_le _)) hg8 hat8
        have hf8 := H7.out.fr.grown hg8 (fun c hc => H7.out.ge c (by simp [obs_mem, hc]))
        have hv' : ∃ A c, v' = .slice A ((x.f4.take i).length + 1) c := by
          rcases ho with ⟨_, ⟨rfl, h0⟩ | ⟨g, cap, cur, rfl, _⟩⟩
          · exact absurd h0 (by omega)
          · exact ⟨_, _, rfl⟩
        rw [hl0] at hv'
        obtain ⟨A', c', rfl⟩ := hv'
        have H8 := Lib.hid hf8
        have HC8 := Lib.hid hC8
        clear ho hb8 hg8 hat8 hf8 hC8
        refine hK.out _ _ (SK.out _ H8.out) (fun hHeld => ?_)
        clear hK K
        refine norm_ (a' := ?_) ?_ ?_
        rotate_left
        · show Act.put _ (some 32) _ = _
          simp only [Act.put, List.setIfInBounds_toArray, List.set_cons_zero, List.set_cons_succ, i64_w, i32_w]
          rfl
        refine pure_ (i := 10) (N := some 33) (v := ?_) (a' := ?_) #[true, true, true, true, true, true, true, true, true, true, true, false] rfl rfl (by kernel_rfl) (fun _ _ _ h => h) (Or.inl ⟨by rfl, ?_⟩) ?_ ?_
        rotate_left
        · intro w'
          go_simp
          with_reducible rfl
        rotate_left
        · simp only [Act.put, List.setIfInBounds_toArray, List.set_cons_zero, List.set_cons_succ, i64_w, i32_w]
          rfl
        refine last_ (i := 11) (N := none) #[true, true, true, true, true, true, true, true, true, true, true, true] rfl rfl (by kernel_rfl) (by decide) (fun K hK => ?_)
        have z4 := (fm_cells H8.out.k3).2.2.2.2
        have f4 := (fm_free H8.out.k3).2.2.2.2
        refine skip_ (w1 := ?_) (by rfl) rfl ?_ ?_
        rotate_left
        · go_simp
          rfl
        refine hK.out _ _ ?_
        clear hK K z4 f4
        refine done_ (by kernel_rfl) ?_
        have HX := Lib.hid (show x.f4.take i ++ [x.f4[i]] = x.f4.take (i + 1) from (List.take_succ_eq_append_getElem hlt).symm)
        rw [HX.out] at HC8
        try go_wp2
        go_roundg (x.f4.length - (i + 1))
        case measure => omega
        case rel => exact ⟨i + 1, by omega, Nat.le_refl _, by go_num, ⟨⟨_, _, _, HC8.out⟩⟩⟩
      · obtain rfl : i = x.f4.length := by omega
        obtain ⟨v, inner, fp, hC⟩ := HO.out
        rw [List.take_length] at hC
        obtain ⟨A4', c4', e4', -, -⟩ := hC.tr.C hC.o4
        subst e4'
        obtain ⟨p0, p1, p2, p3, p4⟩ := fm_cells hC.fr.k3
        obtain ⟨y0, y1, y2, y3, y4⟩ := fm_cells hC.fr.k1
        obtain ⟨z0, z1, z2, z3, z4⟩ := fm_cells hC.fr.k2
        obtain ⟨f0, f1, f2, f3, f4⟩ := fm_free hC.fr.k2
        have hn1 : g3 ≠ w.heap.size + 1 := by have := hC.fr.h3; omega
        have hn2 : w.heap.size + 1 ≠ g3 := fun e => hn1 e.symm
        obtain ⟨st1, st2, st3⟩ := st5 hC.fr.k2 (.int .i64 x.f0) (.string x.f1) (.int .i64 x.f2) (.slice D3 x.f3.length e3) (.slice A4' x.f4.length c4')
        have HNF := hC.newF (st2)
        rw [show (⟨x.f0, x.f1, x.f2, x.f3, x.f4⟩ : Fm) = x from by cases x; rfl] at HNF
        have HN := Lib.hid HNF
        have HB := Lib.hid (st3 _ _ hC.fr.b (by omega))
        clear hC HO st1 st2 st3 HNF
        go_wp2_with fail
        refine bodyPost_ret (v := .agg #[.int .i64 x.f0, .string x.f1, .int .i64 x.f2, (.slice D3 x.f3.length e3), .slice A4' x.f4.length c4']) (by simp [results, Try.results68, go_sem, z0, z1, z2, z3, z4]) rfl ?_
        exact ⟨_, _, rfl, HN.out, HB.out⟩
end Go.Proofs.Ytcbomlmlindjdaa
end
section
namespace Go.Proofs.Ytcbomlmlindjdaa
open Go.RowKit Go.Proofs.YtcbomlmlindjdaaW.PrintWords Go.Proofs.Ytcbomlmlindjdaa.Q
set_option linter.unusedVariables false
theorem bits_xor (a b : Nat) (ha : a < 2 ^ 40) (hb : b < 2 ^ 40) : bits .xor .i64 (a : Int) (b : Int) = ((a ^^^ b : Nat) : Int) := by
  have hp : (2 : Nat) ^ 40 ≤ 2 ^ IntKind.i64.bits := Nat.pow_le_pow_right (by decide) (by decide)
  have ha' : a % 2 ^ IntKind.i64.bits = a := Nat.mod_eq_of_lt (Nat.lt_of_lt_of_le ha hp)
  have hb' : b % 2 ^ IntKind.i64.bits = b := Nat.mod_eq_of_lt (Nat.lt_of_lt_of_le hb hp)
  simp only [bits, BitVec.ofInt_natCast, BitVec.toNat_xor, BitVec.toNat_ofNat, ha', hb']
  have h : a ^^^ b < 2 ^ 40 := Nat.xor_lt_two_pow ha hb
  rw [IntKind.wrap_i64]
  omega
/-- The bytes of an input. -/
def Bts (s : List Int) : Prop := s.length ≤ 2000 ∧ ∀ z, z ∈ s → 0 ≤ z ∧ z < 256
theorem rd_bts {s : List Int} (h : ∀ z, z ∈ s → 0 ≤ z ∧ z < 256) (i : Int) : 0 ≤ rd s i ∧ rd s i < 256 := by
  simp only [rd, List.getD]
  by_cases hi : i.toNat < s.length
  · rw [List.getElem?_eq_getElem hi]; exact h _ (List.getElem_mem hi)
  · rw [List.getElem?_eq_none (by omega)]; simp
theorem wr_in {n : Int} (h0 : 0 ≤ n) (h1 : n < 4611686018427387904) : wrap64 n = n := Go.IntWalk.wrap64_in _ ⟨by omega, by omega⟩
theorem wrN {m : Int} {n : Nat} (h : m = (n : Int)) (hn : n < 4611686018427387904) : wrap64 m = (n : Int) := by
  subst h
  exact wr_in (by omega) (by omega)
theorem pick_num (a c p dv u : Nat) (ha : a < 256) (hc : c < 256) (hp : p ≤ 1000000) (hd : dv ≤ p) (eu : u = a * 131 + c * 1117 + p * 29 + dv * 53) :
    wrap64 (a : Int) = (a : Int) ∧ wrap64 (c : Int) = (c : Int) ∧ wrap64 ((a : Int) * 131) = ((a * 131 : Nat) : Int) ∧ wrap64 ((c : Int) * 1117) = ((c * 1117 : Nat) : Int) ∧
    wrap64 (((a * 131 : Nat) : Int) + ((c * 1117 : Nat) : Int)) = ((a * 131 + c * 1117 : Nat) : Int) ∧ wrap64 ((p : Int) * 29) = ((p * 29 : Nat) : Int) ∧
    wrap64 (((a * 131 + c * 1117 : Nat) : Int) + ((p * 29 : Nat) : Int)) = ((a * 131 + c * 1117 + p * 29 : Nat) : Int) ∧ wrap64 (dv : Int) = (dv : Int) ∧
    wrap64 ((dv : Int) * 53) = ((dv * 53 : Nat) : Int) ∧ wrap64 (((a * 131 + c * 1117 + p * 29 : Nat) : Int) + ((dv * 53 : Nat) : Int)) = (u : Int) ∧
    wrap64 ((u / 64 : Nat) : Int) = ((u / 64 : Nat) : Int) ∧ bits .xor .i64 (u : Int) ((u / 64 : Nat) : Int) = ((u ^^^ (u / 64) : Nat) : Int) := by
  have hu : u < 1000000000 := by omega
  refine ⟨wrN rfl (by omega), wrN rfl (by omega), wrN (by simp) (by omega), wrN (by simp) (by omega), wrN (by simp) (by omega), wrN (by simp) (by omega), wrN (by simp) (by omega), wrN rfl (by omega), wrN (by simp) (by omega), wrN (by subst eu; simp) (by omega), wrN rfl (by omega), bits_xor _ _ (by omega) (by omega)⟩
theorem ev_pick {s : List Int} (hs : Bts s) (p : Nat) (hp : p ≤ 1000000) (n : Int) (hn : n ≤ 1000000) :
    ∃ v : Int, (1 ≤ n → 0 ≤ v ∧ v < n) ∧ Ev (fun k => spec_l15Rd_pick.f k s (p : Int) n) (v, ((p + 1 : Nat) : Int)) := by
  obtain ⟨hl, hb⟩ := hs
  have e1 : wrap64 ((p : Int) + 1) = ((p + 1 : Nat) : Int) := wr1 p (by omega)
  have e2 : wrap64 (((p + 1 : Nat) : Int) - 1) = (p : Int) := by rw [wr_in (by omega) (by omega)]; omega
  by_cases h1 : n < 1
  · refine ⟨0, fun h => by omega, ?_⟩
    simp only [spec_l15Rd_pick.f]
    refine Ev.pos h1 (Ev.step (fun k => by rw [spec_l15Rd_pick.j0]) (Ev.pos rfl ?_))
    rw [e1]; exact Ev.now _
  · by_cases h2 : s.length = 0
    · refine ⟨0, fun h => by omega, ?_⟩
      simp only [spec_l15Rd_pick.f]
      refine Ev.neg h1 (Ev.step (fun k => by rw [spec_l15Rd_pick.j0]) (Ev.pos (by simp [h2]) ?_))
      rw [e1]; exact Ev.now _
    · have h0 : (s.length : Int) ≠ 0 := by omega
      by_cases h3 : (p : Int) < (s.length : Int)
      · have hv := rd_bts hb (p : Int)
        refine ⟨Int.tmod (rd s p) n, fun h => ⟨Int.tmod_nonneg _ hv.1, Int.tmod_lt_of_pos _ (by omega)⟩, ?_⟩
        simp only [spec_l15Rd_pick.f]
        refine Ev.neg h1 (Ev.step (fun k => by rw [spec_l15Rd_pick.j0]) (Ev.neg (by simpa using h0) ?_))
        rw [e1, e2, wr_in hv.1 (by omega)]
        exact Ev.pos h3 (Ev.pos (by omega) (Ev.neg (by omega) (Ev.now _)))
      · obtain ⟨q, eq⟩ : ∃ q : Nat, q = p % s.length := ⟨_, rfl⟩
        obtain ⟨t, et⟩ : ∃ t : Nat, t = (p * 7 + 3) % s.length := ⟨_, rfl⟩
        obtain ⟨dv, ed⟩ : ∃ dv : Nat, dv = p / s.length := ⟨_, rfl⟩
        have hq : q < s.length := by rw [eq]; exact Nat.mod_lt _ (by omega)
        have ht : t < s.length := by rw [et]; exact Nat.mod_lt _ (by omega)
        have hd : dv ≤ p := by rw [ed]; exact Nat.div_le_self _ _
        have m1 : Int.tmod (p : Int) (s.length : Int) = (q : Int) := by rw [eq]; exact Go.IntWalk.up_tmod rfl rfl
        have w1 : wrap64 ((p : Int) * 7) = ((p * 7 : Nat) : Int) := wrN (by omega) (by omega)
        have w2 : wrap64 (((p * 7 : Nat) : Int) + 3) = ((p * 7 + 3 : Nat) : Int) := wrN (by omega) (by omega)
        have m2 : Int.tmod ((p * 7 + 3 : Nat) : Int) (s.length : Int) = (t : Int) := by rw [et]; exact Go.IntWalk.up_tmod rfl rfl
        have ha := rd_bts hb (q : Int)
        have hc := rd_bts hb (t : Int)
        obtain ⟨a, ea⟩ := Int.eq_ofNat_of_zero_le ha.1
        obtain ⟨c, ec⟩ := Int.eq_ofNat_of_zero_le hc.1
        have d1 : Int.tdiv (p : Int) (s.length : Int) = (dv : Int) := by rw [ed]; exact Go.IntWalk.up_tdiv rfl rfl
        rw [ea] at ha
        rw [ec] at hc
        obtain ⟨u, eu⟩ : ∃ u : Nat, u = a * 131 + c * 1117 + p * 29 + dv * 53 := ⟨_, rfl⟩
        clear eq et ed
        obtain ⟨wa, wc, wa2, wc2, w3, w4, w5, w6, w7, w8, w9, wb⟩ := pick_num a c p dv u (Int.ofNat_lt.1 ha.2) (Int.ofNat_lt.1 hc.2) hp hd eu
        have d2 : Int.tdiv (u : Int) 64 = ((u / 64 : Nat) : Int) := Go.IntWalk.up_tdiv rfl rfl
        refine ⟨Int.tmod ((u ^^^ (u / 64) : Nat) : Int) n, fun h => ⟨Int.tmod_nonneg _ (by omega), Int.tmod_lt_of_pos _ (by omega)⟩, ?_⟩
        simp only [spec_l15Rd_pick.f]
        refine Ev.neg h1 (Ev.step (fun k => by rw [spec_l15Rd_pick.j0]) (Ev.neg (by simpa using h0) ?_))
        simp only [e1, e2, w1, w2, m1, m2, d1, ea, ec, wa, wc, wa2, wc2, w3, w4, w5, w6, w7, w8, d2, w9, wb]
        exact Ev.neg h3 (Ev.neg h0 (Ev.pos (by omega) (Ev.pos (by omega) (Ev.pos (by omega) (Ev.pos (by omega) (Ev.neg (by omega) (Ev.now _)))))))
theorem ev_num {s : List Int} (hs : Bts s) (p : Nat) (hp : p ≤ 1000000) (l : List Int) (h1 : l ≠ []) (h2 : l.length ≤ 1000) :
    ∃ v : Int, v ∈ l ∧ Ev (fun k => spec_l15Rd_num.f k s (p : Int) l) (v, ((p + 1 : Nat) : Int)) := by
  have hl : 0 < l.length := List.length_pos_iff.2 h1
  obtain ⟨v, hv, he⟩ := ev_pick hs p hp (l.length : Int) (by omega)
  obtain ⟨h0, hn⟩ := hv (by omega)
  refine ⟨rd l v, ?_, ?_⟩
  · have : v.toNat < l.length := by omega
    simp only [rd, List.getD, List.getElem?_eq_getElem this, Option.getD_some]
    exact List.getElem_mem this
  · simp only [spec_l15Rd_num.f]
    exact Ev.bind he (Ev.pos h0 (Ev.pos hn (Ev.now _)))
theorem ev_of {s : List Int} (hs : Bts s) (p : Nat) (hp : p ≤ 1000000) (l : List ByteArray) (h1 : l ≠ []) (h2 : l.length ≤ 1000) :
    ∃ v : ByteArray, v ∈ l ∧ Ev (fun k => spec_l15Rd_of.f k s (p : Int) l) (v, ((p + 1 : Nat) : Int)) := by
  have hl : 0 < l.length := List.length_pos_iff.2 h1
  obtain ⟨v, hv, he⟩ := ev_pick hs p hp (l.length : Int) (by omega)
  obtain ⟨h0, hn⟩ := hv (by omega)
  refine ⟨rdOf ByteArray.empty l v, ?_, ?_⟩
  · have : v.toNat < l.length := by omega
    simp only [rdOf, List.getD, List.getElem?_eq_getElem this, Option.getD_some]
    exact List.getElem_mem this
  · simp only [spec_l15Rd_of.f]
    exact Ev.bind he (Ev.pos h0 (Ev.pos hn (Ev.now _)))
theorem ev_open (l : List Int) (h : ∀ z, z ∈ l → 0 ≤ z ∧ z < 256) : ∃ s, Bts s ∧ spec_l15Open.f l = some (s, 0) := by
  unfold spec_l15Open.f
  by_cases h2 : (l.length : Int) > 2000
  · rw [if_pos h2, if_pos (by omega)]
    exact ⟨_, ⟨by simp; omega, fun z hz => h z (List.mem_of_mem_take hz)⟩, rfl⟩
  · rw [if_neg h2]
    exact ⟨_, ⟨by omega, h⟩, rfl⟩
end Go.Proofs.Ytcbomlmlindjdaa
end
section
namespace Go.Proofs.Ytcbomlmlindjdaa
open Go.RowKit Go.Proofs.YtcbomlmlindjdaaW.PrintWords Go.Proofs.YtcbomlmlindjdaaW.PrintLast Go.Proofs.YtcbomlmlindjdaaW.PrintMore
set_option linter.unusedVariables false
set_option linter.unusedSimpArgs false
/-- What a function that draws a form leaves. -/
def DrPost (w0 : World) (g : Nat) (s : List Int) (q : Int) (y : Fm) (w : World) (e : Ending) (w' : World) : Prop :=
  ∃ v3 v4, e = .returned (.agg #[.int .i64 y.f0, .string y.f1, .int .i64 y.f2, v3, v4]) ∧ NewF w.heap.size w' y v3 v4 ∧ IsRd w0 w' g s q ∧ Below w0.heap.size w0 w' ∧ KeepBut w w' g none
def DressOk (s : List Int) (x : Fm) (p : Nat) (y : Fm) (q : Nat) : Prop := ∀ (g : Nat) (A3 : Option Addr) (c3 : Nat) (A4 : Option Addr) (c4 : Nat) (w0 w : World), IsRd w0 w g s (p : Int) → Below w0.heap.size w0 w → FmIn w x A3 c3 A4 c4 →
  Calls Try.prog 64 #[.pointer (some ⟨g, 0, none⟩), .agg #[.int .i64 x.f0, .string x.f1, .int .i64 x.f2, .slice A3 x.f3.length c3, .slice A4 x.f4.length c4]] w (DrPost w0 g s (q : Int) y w)
theorem add_plain (b i : Nat) : (⟨b, 0, none⟩ : Addr).add i = ⟨b, i, none⟩ := by unfold Addr.add; split <;> simp_all
/-- A block of numbers reads as_ a row. -/
theorem reads_block {W : World} {b : Nat} {cs : Array Value} {l : List Int} (hb : W.heap[b]? = some (.cells cs 3 (0, 0))) (hl : l.length ≤ 1000) (hcs : cs.toList = l.map (Value.int .i64)) : kI.C W (some ⟨b, 0, none⟩) l.length l := by
  refine Kd.C_of_reads (d := (0 : Int)) (h1 := fun _ => rfl) ⟨rfl, by omega, fun hn => ⟨⟨b, 0, none⟩, rfl, fun i hi => ?_⟩⟩
  rw [add_plain, blk_cell hb i]
  have h9 := congrArg (fun z => z[i]?) hcs
  simp only [Array.getElem?_toList, List.getElem?_map] at h9
  rw [h9, List.getElem?_eq_getElem hi, List.getD_eq_getElem?_getD, List.getElem?_eq_getElem hi]
  rfl
theorem alloc_at (w : World) (o : Obj) (k : Nat) : (w.alloc o).heap[k]? = if k = w.heap.size then some o else w.heap[k]? := by
  show (w.heap.push o)[k]? = _
  rw [Array.getElem?_push]
theorem alloc_size (w : World) (o : Obj) : (w.alloc o).heap.size = w.heap.size + 1 := by simp
abbrev sets7 : List (List Int) := [(([] : List Int)), (([1] : List Int)), (([2] : List Int)), (([1, 2] : List Int)), (([1, 3] : List Int)), (([1, 2, 3] : List Int)), (([99] : List Int))]
/-- The seven sets, laid one behind the other from block B on; the row of them; an empty row. -/
theorem sets_lit {U W2 : World} {B : Nat} (hB : U.heap.size = B) (hW : ∀ b, B ≤ b → b < B + 9 → W2.heap[b]? = (((((((((U.alloc (.cells #[] 3)).alloc (.cells #[.int .i64 1] 3)).alloc (.cells #[.int .i64 2] 3)).alloc (.cells #[.int .i64 1, .int .i64 2] 3)).alloc (.cells #[.int .i64 1, .int .i64 3] 3)).alloc (.cells #[.int .i64 1, .int .i64 2, .int .i64 3] 3)).alloc (.cells #[.int .i64 99] 3)).alloc (.cells #[.slice (some ⟨B, 0, none⟩) 0 0, .slice (some ⟨B + 1, 0, none⟩) 1 1, .slice (some ⟨B + 1 + 1, 0, none⟩) 1 1, .slice (some ⟨B + 1 + 1 + 1, 0, none⟩) 2 2, .slice (some ⟨B + 1 + 1 + 1 + 1, 0, none⟩) 2 2, .slice (some ⟨B + 1 + 1 + 1 + 1 + 1, 0, none⟩) 3 3, .slice (some ⟨B + 1 + 1 + 1 + 1 + 1 + 1, 0, none⟩) 1 1] 27)).alloc (.cells #[] 3)).heap[b]?) (j : Nat) (hj : j < 7) :
    ∃ A c, W2.cell? ⟨B + 1 + 1 + 1 + 1 + 1 + 1 + 1, j, none⟩ = some (.slice A (sets7[j]'hj).length c) ∧ (sets7[j]'hj).length ≤ c ∧ kI.C W2 A (sets7[j]'hj).length (sets7[j]'hj) ∧ W2.heap[B + 1 + 1 + 1 + 1 + 1 + 1 + 1 + 1]? = some (.cells #[] 3 (0, 0)) := by
  subst hB
  have h0 := hW U.heap.size (by omega) (by omega)
  have h1 := hW (U.heap.size + 1) (by omega) (by omega)
  have h2 := hW (U.heap.size + 2) (by omega) (by omega)
  have h3 := hW (U.heap.size + 3) (by omega) (by omega)
  have h4 := hW (U.heap.size + 4) (by omega) (by omega)
  have h5 := hW (U.heap.size + 5) (by omega) (by omega)
  have h6 := hW (U.heap.size + 6) (by omega) (by omega)
  have h7 := hW (U.heap.size + 7) (by omega) (by omega)
  have h8 := hW (U.heap.size + 8) (by omega) (by omega)
  clear hW
  simp only [alloc_at, alloc_size] at h0 h1 h2 h3 h4 h5 h6 h7 h8
  repeat (first | rw [if_pos (by omega)] at h0 | rw [if_neg (by omega)] at h0)
  repeat (first | rw [if_pos (by omega)] at h1 | rw [if_neg (by omega)] at h1)
  repeat (first | rw [if_pos (by omega)] at h2 | rw [if_neg (by omega)] at h2)
  repeat (first | rw [if_pos (by omega)] at h3 | rw [if_neg (by omega)] at h3)
  repeat (first | rw [if_pos (by omega)] at h4 | rw [if_neg (by omega)] at h4)
  repeat (first | rw [if_pos (by omega)] at h5 | rw [if_neg (by omega)] at h5)
  repeat (first | rw [if_pos (by omega)] at h6 | rw [if_neg (by omega)] at h6)
  repeat (first | rw [if_pos (by omega)] at h7 | rw [if_neg (by omega)] at h7)
  repeat (first | rw [if_pos (by omega)] at h8 | rw [if_neg (by omega)] at h8)
  have hcell : ∀ (b : Nat) (cs : Array Value) (u : Value) (i : Nat) (e : TypeId), W2.heap[b]? = some (.cells cs e (0, 0)) → cs[i]? = some u → W2.cell? ⟨b, i, none⟩ = some u := fun b cs u i e hb hu => (blk_cell hb i).trans hu
  rcases (show j = 0 ∨ j = 1 ∨ j = 2 ∨ j = 3 ∨ j = 4 ∨ j = 5 ∨ j = 6 by omega) with rfl | rfl | rfl | rfl | rfl | rfl | rfl
  · exact ⟨_, _, hcell _ _ _ _ _ h7 rfl, Nat.le_refl _, reads_block h0 (by simp) rfl, h8⟩
  · exact ⟨_, _, hcell _ _ _ _ _ h7 rfl, Nat.le_refl _, reads_block h1 (by simp) rfl, h8⟩
  · exact ⟨_, _, hcell _ _ _ _ _ h7 rfl, Nat.le_refl _, reads_block h2 (by simp) rfl, h8⟩
  · exact ⟨_, _, hcell _ _ _ _ _ h7 rfl, Nat.le_refl _, reads_block h3 (by simp) rfl, h8⟩
  · exact ⟨_, _, hcell _ _ _ _ _ h7 rfl, Nat.le_refl _, reads_block h4 (by simp) rfl, h8⟩
  · exact ⟨_, _, hcell _ _ _ _ _ h7 rfl, Nat.le_refl _, reads_block h5 (by simp) rfl, h8⟩
  · exact ⟨_, _, hcell _ _ _ _ _ h7 rfl, Nat.le_refl _, reads_block h6 (by simp) rfl, h8⟩
/-- The last five stores: the form goes into the result. -/
theorem Dr.put5 {w0 w W : World} {g : Nat} {s : List Int} {q : Int} (h : Dr w0 w g s q W) {b : Nat} (hb : w.heap.size ≤ b) (u0 u1 u2 u3 u4 : Value) : Dr w0 w g s q (((((W.setCell ⟨b, 0, none⟩ u0).setCell ⟨b, 1, none⟩ u1).setCell ⟨b, 2, none⟩ u2).setCell ⟨b, 3, none⟩ u3).setCell ⟨b, 4, none⟩ u4) :=
  ((((h.put hb _).put hb _).put hb _).put hb _).put hb _
set_option maxHeartbeats 4000000 in
set_option maxRecDepth 100000 in
theorem dress_walk {s : List Int} (x : Fm) (p p1 q : Nat) (j : Nat) (hj : j < 7) (y3 : List Int) (ys : List Fm) (ps : Nat → Nat) (ht : x.tot ≤ 100000) (hpick : Ev (fun k => Q.spec_l15Rd_pick.f k s (p : Int) 7) ((j : Int), ((p + 1 : Nat) : Int)))
    (h1 : p1 = if x.f0 = 1 then p + 1 else p) (h3 : y3 = if x.f0 = 1 then sets7[j] else x.f3) (hyl : ys.length = x.f4.length) (hp0 : ps 0 = p1) (hpn : ps x.f4.length = q) (hys : ∀ (i : Nat) (hi : i < x.f4.length) (hi2 : i < ys.length), DressOk s x.f4[i] (ps i) ys[i] (ps (i + 1))) : DressOk s x p ⟨x.f0, x.f1, x.f2, y3, ys⟩ q := by
  intro g A3 c3 A4 c4 w0 w hi hb hin
  have hmax := hin.g4.2.1
  have HI := Lib.hid hin
  have HD0 := Lib.hid (Dr.new hi hb)
  have HT := Lib.hid ht
  have H1 := Lib.hid h1
  have H3 := Lib.hid h3
  have HYL := Lib.hid hyl
  have HP0 := Lib.hid hp0
  have HPN := Lib.hid hpn
  have HYS := Lib.hid hys
  have HJ := Lib.hid hj
  obtain ⟨kp, hkp⟩ := hpick.rounds
  have HKP := Lib.hid hkp
  have r1 : (0 : Int) ≤ (j : Int) := by omega
  have r2 : (j : Int) < 7 := by omega
  have hlen := len_totL x.f4
  have hxt := x.tot_eq
  have HLN := Lib.hid (show x.f4.length ≤ 100000 by omega)
  clear hin hi hb ht h1 h3 hp0 hpn hys hpick hkp hlen hxt hyl
  go_enter Try.func64, Try.ntmps64
  go_wp2_with fail
  refine (l1Copy_any x A3 c3 A4 c4 _ (HI.out.below (below_step (below_new _ _) (below_new _ _))) (by have := HT.out; omega)).mono ?_
  rintro e w1 ⟨u3, u4, rfl, hn, hb1⟩
  obtain ⟨J3, q3, J4, q4, rfl, rfl⟩ : ∃ J3 q3 J4 q4, u3 = .slice J3 x.f3.length q3 ∧ u4 = .slice J4 x.f4.length q4 := by
    obtain ⟨fk, hk2, _⟩ := hn
    obtain ⟨J3, q3, J4, q4, e3, e4, _⟩ := hk2.In
    exact ⟨J3, q3, J4, q4, e3, e4⟩
  obtain ⟨k1, k2, b1⟩ := two_new hb1
  rw [show ((w.alloc (.cells #[.int .i64 x.f0, .string x.f1, .int .i64 x.f2, .slice A3 x.f3.length c3, .slice A4 x.f4.length c4] 30)).alloc (.cells #[.int .i64 0, .string ⟨#[]⟩, .int .i64 0, .slice none 0 0, .slice none 0 0] 30)).heap.size = w.heap.size + 2 from by simp] at hn
  obtain ⟨inner, fp, hdp⟩ := Dp.start (HD0.out.later b1) k1 k2 hn
  have HDP := Lib.hid hdp
  obtain ⟨p0, p1_, p2, p3, p4⟩ := fm_cells (blk_below k1 (below_new w1 (.cells #[.int .i64 x.f0, .string x.f1, .int .i64 x.f2, .slice J3 x.f3.length q3, .slice J4 x.f4.length q4] 30 (0, 0))))
  clear hb1 hn k1 k2 b1 hdp
  go_upto_if 12 with fail
  (try simp only [Act.put, List.setIfInBounds_toArray, List.set_cons_zero, List.set_cons_succ])
  go_cut [] (fun wc => ∃ (D3 : Option Addr) (e3 : Nat) (inner : List Value) (fp : List Nat), Aside0 (Dp w0 w g s (p1 : Int) (.cells #[.int .i64 x.f0, .string x.f1, .int .i64 x.f2, .slice A3 x.f3.length c3, .slice A4 x.f4.length c4] 30) (.cells #[.int .i64 0, .string ⟨#[]⟩, .int .i64 0, .slice none 0 0, .slice none 0 0] 30) w1.heap.size x.f0 x.f1 x.f2 y3 x.f4 (.slice D3 y3.length e3) (.slice J4 x.f4.length q4) inner fp wc))
  case first =>
    by_cases hk : x.f0 = 1
    · have t1 : (x.f0 == 1) = true := beq_iff_eq.mpr hk
      have HX1 := Lib.hid hk
      clear hk
      (first | rw [t1] | skip)
      go_wp2_with fail
      refine (Q.spec_l15Rd_pick.calls kp g s (p : Int) 7 (j : Int) _ w0 _ (HDP.out.dr.later (by repeat (first | exact Below.refl _ _ | refine below_alloc ?_ _))).is (HDP.out.dr.later (by repeat (first | exact Below.refl _ _ | refine below_alloc ?_ _))).b HKP.out).mono ?_
      rintro e w2 ⟨rfl, hi2, hb2, hk2⟩
      have hset := sets_lit (U := w1.alloc (.cells #[.int .i64 x.f0, .string x.f1, .int .i64 x.f2, .slice J3 x.f3.length q3, .slice J4 x.f4.length q4] 30 (0, 0))) (W2 := w2) (B := w1.heap.size + 1) (by simp) (fun b hb1 hb2 => hk2.2 b (by simp only [alloc_size]; omega) (by have := HDP.out.dr.lt; have := HDP.out.h3; omega) (by simp)) j HJ.out
      obtain ⟨As, cs, hcell, hcl, hC, hemp⟩ := hset
      have hdp2 := (HDP.out.later (by repeat (first | exact Below.refl _ _ | refine below_alloc ?_ _))).call hi2 hb2 hk2
      have hfr := HDP.out.fresh (b := w1.heap.size + 1 + 1 + 1 + 1 + 1 + 1 + 1 + 1 + 1) (by simp only [alloc_size]; omega)
      have hR0 : kI.R 3 w2 (w1.heap.size + 1) (fun _ => True) (.slice (some ⟨w1.heap.size + 1 + 1 + 1 + 1 + 1 + 1 + 1 + 1 + 1, 0, none⟩) 0 0) [] :=
        Kd.R_of_own ⟨by simp [encs], .inr ⟨_, 0, #[], rfl, by omega, hemp, Nat.le_refl _, Nat.zero_le _, by simp, by simp [encs]⟩⟩ (fun _ _ => trivial)
      have hl7 : (sets7[j]'HJ.out).length ≤ 3 := by
        rcases (show j = 0 ∨ j = 1 ∨ j = 2 ∨ j = 3 ∨ j = 4 ∨ j = 5 ∨ j = 6 by have := HJ.out; omega) with rfl | rfl | rfl | rfl | rfl | rfl | rfl <;> simp
      have HL7 := Lib.hid hl7
      have HR0 := Aside0.mk hR0
      have HCC := Aside0.mk hC
      have HD2 := Lib.hid hdp2
      have HFR := Lib.hid hfr
      have HEL := Lib.hid (blk_lt hemp)
      clear hi2 hb2 hk2 hcl hC hemp hdp2 hfr hR0 hl7
      go_wp2_with (first | ((with_reducible refine gate_dst (N := 29) rfl ?_); refine Kd.R_append_row (Value.int .i64) (0 : Int) (w0 := w2) (w1.heap.size + 1) rfl (.tmp 21) (.tmp 28) 27 3 (.int .i64 0) 8 rfl Try.underlying27 infoI rfl (by decide) (.slice (some ⟨w1.heap.size + 1 + 1 + 1 + 1 + 1 + 1 + 1 + 1 + 1, 0, none⟩) 0 0) [] (sets7[j]'HJ.out) As (sets7[j]'HJ.out).length cs (fun _ => True) rfl rfl (fun _ _ => trivial) HR0.out HCC.out (Below.refl _ _) (by have := HEL.out; omega) (by have := HL7.out; simp; omega) ?_; intro v5 w3 ho5 hb5 hg5 hat5; rw [List.nil_append] at ho5; obtain ⟨D5, e5, e6⟩ := Kd.R_slice ho5; subst e6; have hbox3 := blk_grown HD2.out.k3 hg5 (by simp only [Value.ownBlock, ne_eq, Option.some.injEq]; omega); have z3 := (fm_cells hbox3).2.2.2.1; have f3 := (fm_free hbox3).2.2.2.1; have HO5 := Aside0.mk ho5; have HG5 := Lib.hid (And.intro hg5 hat5); clear hbox3 ho5 hb5 hg5 hat5))
      go_meet
      case rel =>
        have hq := H1.out
        have hy := H3.out
        rw [if_pos HX1.out] at hq hy
        rw [hq, hy]
        refine ⟨D5, e5, inner, fp, ⟨HD2.out.scopes HG5.out.1 (fun b hb => ?_) (own_weaken (Kd.own_of_R HO5.out) (Nat.zero_le _)) (fun b hb => ?_)⟩⟩
        · have e : b = w1.heap.size + 1 + 1 + 1 + 1 + 1 + 1 + 1 + 1 + 1 := by simpa [Value.ownBlock] using hb.symm
          rw [e]; exact HFR.out
        · rcases HG5.out.2 with h | ⟨c, h, hc⟩
          · rw [h] at hb
            have e : b = w1.heap.size + 1 + 1 + 1 + 1 + 1 + 1 + 1 + 1 + 1 := by simpa [Value.ownBlock] using hb.symm
            rw [e]; exact HFR.out
          · rw [h] at hb
            cases hb
            exact HD2.out.fresh hc
    · have t1 : (x.f0 == 1) = false := beq_eq_false_iff_ne.mpr hk
      have HX1 := Lib.hid hk
      clear hk
      (first | rw [t1] | skip)
      go_wp2
      go_meet
      case rel =>
        have hq := H1.out
        have hy := H3.out
        rw [if_neg HX1.out] at hq hy
        rw [hq, hy]
        exact ⟨J3, q3, inner, fp, ⟨HDP.out⟩⟩
  case rest =>
    obtain ⟨D3, e3, inner0, fp0, HCP⟩ := hcut
    clear HDP p0 p1_ p2 p3 p4 inner fp
    go_wp2_with fail
    go_loopg [7] x.f4.length (fun kq v7 w' => ∃ i : Nat, i ≤ x.f4.length ∧ x.f4.length - i ≤ kq ∧ v7 = .int .i64 i ∧ Aside0 (∃ inner fp, Dp w0 w g s (ps i : Int) (.cells #[.int .i64 x.f0, .string x.f1, .int .i64 x.f2, .slice A3 x.f3.length c3, .slice A4 x.f4.length c4] 30) (.cells #[.int .i64 0, .string ⟨#[]⟩, .int .i64 0, .slice none 0 0, .slice none 0 0] 30) w1.heap.size x.f0 x.f1 x.f2 y3 (ys.take i ++ x.f4.drop i) (.slice D3 y3.length e3) (.slice J4 x.f4.length q4) inner fp w'))
    case atStart => exact ⟨0, Nat.zero_le _, by omega, rfl, ⟨⟨inner0, fp0, by rw [HP0.out]; simpa using HCP.out⟩⟩⟩
    case round =>
      obtain ⟨i, hi, hg, rfl, HO⟩ := hrel
      by_cases hlt : i < x.f4.length
      · obtain ⟨inner, fp, hC⟩ := HO.out
        have hyl2 := HYL.out
        have hlen : (ys.take i ++ x.f4.drop i).length = x.f4.length := by simp; omega
        have ho4 := hC.o4
        rw [hlen] at ho4
        obtain ⟨gr, cap, e, hgr0, hgr1⟩ := ho4.form (by omega)
        obtain ⟨rfl, rfl⟩ : J4 = some ⟨gr, 0, none⟩ ∧ q4 = cap := by injection e with e1 _ e2; exact ⟨e1, e2⟩
        clear e
        have htr := hC.tr
        rw [List.drop_eq_getElem_cons hlt] at htr
        obtain ⟨ia, ib0, fa, fb0, rfl, rfl, hta, htb0⟩ := TrL.split _ htr
        obtain ⟨z3, z4, ib, fx, fb, rfl, rfl, htx, htb⟩ := TrL.cons_inv htb0
        have hla := hta.len
        rw [List.length_take, Nat.min_eq_left (by omega)] at hla
        obtain ⟨G3, m3, G4, m4, rfl, rfl, hkin⟩ := htx.In
        have HLEN := Lib.hid hlen
        have HTA := Lib.hid hta
        have HTB := Lib.hid htb
        have HLA := Lib.hid hla
        have HKIN := Lib.hid hkin
        have HC := Lib.hid hC
        have SK := Lib.hid (fun (W : World) (q' : Int) (h : Dp w0 w g s q' (.cells #[.int .i64 x.f0, .string x.f1, .int .i64 x.f2, .slice A3 x.f3.length c3, .slice A4 x.f4.length c4] 30) (.cells #[.int .i64 0, .string ⟨#[]⟩, .int .i64 0, .slice none 0 0, .slice none 0 0] 30) w1.heap.size x.f0 x.f1 x.f2 y3 (ys.take i ++ x.f4.drop i) (.slice D3 y3.length e3) (.slice (some ⟨gr, 0, none⟩) x.f4.length q4) (ia ++ ([.int .i64 x.f4[i].f0, .string x.f4[i].f1, .int .i64 x.f4[i].f2, .slice G3 x.f4[i].f3.length m3, .slice G4 x.f4[i].f4.length m4] ++ ib)) (fa ++ (fx ++ fb)) W) => (⟨(fm_cells h.k3).2.2.2.2, (row_put (by have := h.o4; rw [hlen] at this; exact this) hla).1⟩ : W.cell? ⟨w1.heap.size, 4, none⟩ = some (.slice (some ⟨gr, 0, none⟩) x.f4.length q4) ∧ W.cell? ⟨gr, i * 5, none⟩ = some (.int .i64 x.f4[i].f0) ∧ W.cell? ⟨gr, i * 5 + 1, none⟩ = some (.string x.f4[i].f1) ∧ W.cell? ⟨gr, i * 5 + 2, none⟩ = some (.int .i64 x.f4[i].f2) ∧ W.cell? ⟨gr, i * 5 + 3, none⟩ = some (.slice G3 x.f4[i].f3.length m3) ∧ W.cell? ⟨gr, i * 5 + 4, none⟩ = some (.slice G4 x.f4[i].f4.length m4)))
        have hp4 := (SK.out _ _ hC).1
        have s1 : (0 : Int) ≤ (i : Int) := by omega
        have s2 : (i : Int) < (x.f4.length : Int) := by omega
        clear hC hlen ho4 htr hta htb htb0 htx hla hkin hyl2 HO hgr0 hgr1
        go_wp2_with fail
        have HD := Lib.hid (HC.out.later (below_drew (Below.refl _ _)))
        have HKD := Lib.hid (HKIN.out.below (below_drew (Below.refl _ _)))
        have HDK := Lib.hid (fun b (hb : b < wr.heap.size) => (below_drew (Below.refl wr.heap.size wr)).block b hb)
        refine start_ (n := 12) (S := fun W => W.cell? ⟨w1.heap.size, 4, none⟩ = some (.slice (some ⟨gr, 0, none⟩) x.f4.length q4) ∧ W.cell? ⟨gr, i * 5, none⟩ = some (.int .i64 x.f4[i].f0) ∧ W.cell? ⟨gr, i * 5 + 1, none⟩ = some (.string x.f4[i].f1) ∧ W.cell? ⟨gr, i * 5 + 2, none⟩ = some (.int .i64 x.f4[i].f2) ∧ W.cell? ⟨gr, i * 5 + 3, none⟩ = some (.slice G3 x.f4[i].f3.length m3) ∧ W.cell? ⟨gr, i * 5 + 4, none⟩ = some (.slice G4 x.f4[i].f4.length m4)) (ds := [11]) #[false, false, false, false, false, false, false, false, false, false, false, false] (by kernel_rfl) rfl rfl (SK.out _ _ HD.out) (fun hHeld => ?_)
        clear hp4
        generalize wr.drew = wd at HD HKD HDK hHeld ⊢
        refine pure_ (i := 0) (N := some 38) (v := ?_) (a' := ?_) #[true, false, false, false, false, false, false, false, false, false, false, false] rfl rfl (by kernel_rfl) (fun _ _ _ h => h) (Or.inl ⟨by rfl, ?_⟩) ?_ ?_
        rotate_left
        · intro w'
          go_simp
          with_reducible rfl
        rotate_left
        · simp only [Act.put, List.setIfInBounds_toArray, List.set_cons_zero, List.set_cons_succ, i64_w, i32_w]
          rfl
        refine pure_ (i := 2) (N := some 40) (v := ?_) (a' := ?_) #[true, false, true, false, false, false, false, false, false, false, false, false] rfl rfl (by kernel_rfl) (fun _ _ _ h => h) (Or.inl ⟨by rfl, ?_⟩) ?_ ?_
        rotate_left
        · intro w'
          go_simp
          with_reducible rfl
        rotate_left
        · simp only [Act.put, List.setIfInBounds_toArray, List.set_cons_zero, List.set_cons_succ, i64_w, i32_w]
          rfl
        refine pure_ (i := 3) (N := some 41) (v := ?_) (a' := ?_) #[true, false, true, true, false, false, false, false, false, false, false, false] rfl rfl (by kernel_rfl) (fun _ _ _ h => h) (Or.inl ⟨by rfl, ?_⟩) ?_ ?_
        rotate_left
        · intro w'
          go_simp
          with_reducible rfl
        rotate_left
        · simp only [Act.put, List.setIfInBounds_toArray, List.set_cons_zero, List.set_cons_succ, i64_w, i32_w]
          rfl
        refine pure_ (i := 4) (N := some 42) (v := ?_) (a' := ?_) #[true, false, true, true, true, false, false, false, false, false, false, false] rfl rfl (by kernel_rfl) (fun _ _ _ h => h) (Or.inl ⟨by rfl, ?_⟩) ?_ ?_
        rotate_left
        · intro w'
          go_simp
          with_reducible rfl
        rotate_left
        · simp only [Act.put, List.setIfInBounds_toArray, List.set_cons_zero, List.set_cons_succ, i64_w, i32_w]
          rfl
        refine pure_ (i := 6) (N := some 44) (v := ?_) (a' := ?_) #[true, false, true, true, true, false, true, false, false, false, false, false] rfl rfl (by kernel_rfl) (fun _ _ _ h => h) (Or.inl ⟨by rfl, ?_⟩) ?_ ?_
        rotate_left
        · intro w'
          go_simp
          with_reducible rfl
        rotate_left
        · simp only [Act.put, List.setIfInBounds_toArray, List.set_cons_zero, List.set_cons_succ, i64_w, i32_w]
          rfl
        refine take_ (i := 1) (N := some 39) (v := ?_) (a' := ?_) #[true, true, true, true, true, false, true, false, false, false, false, false] rfl rfl (by kernel_rfl) (fun _ _ _ h => h) (Or.inl ⟨by rfl, ?_⟩) hHeld ?_ ?_
        rotate_left
        · rintro w' ⟨s0, e0, e1, e2, e3_, e4⟩
          go_simp
          with_reducible rfl
        rotate_left
        · simp only [Act.put, List.setIfInBounds_toArray, List.set_cons_zero, List.set_cons_succ, i64_w, i32_w]
          rfl
        refine take_ (i := 5) (N := some 43) (v := ?_) (a' := ?_) #[true, true, true, true, true, true, true, false, false, false, false, false] rfl rfl (by kernel_rfl) (fun _ _ _ h => h) (Or.inl ⟨by rfl, ?_⟩) hHeld ?_ ?_
        rotate_left
        · rintro w' ⟨s0, e0, e1, e2, e3_, e4⟩
          go_simp
          with_reducible rfl
        rotate_left
        · simp only [Act.put, List.setIfInBounds_toArray, List.set_cons_zero, List.set_cons_succ, i64_w, i32_w]
          rfl
        refine pure_ (i := 7) (N := some 45) (v := ?_) (a' := ?_) #[true, true, true, true, true, true, true, true, false, false, false, false] rfl rfl (by kernel_rfl) (fun _ _ _ h => h) (Or.inl ⟨by rfl, ?_⟩) ?_ ?_
        rotate_left
        · intro w'
          go_simp
          with_reducible rfl
        rotate_left
        · simp only [Act.put, List.setIfInBounds_toArray, List.set_cons_zero, List.set_cons_succ, i64_w, i32_w]
          rfl
        refine take_ (i := 8) (N := some 46) (v := ?_) (a' := ?_) #[true, true, true, true, true, true, true, true, true, false, false, false] rfl rfl (by kernel_rfl) (fun _ _ _ h => h) (Or.inl ⟨by rfl, ?_⟩) hHeld ?_ ?_
        rotate_left
        · rintro w' ⟨s0, e0, e1, e2, e3_, e4⟩
          go_simp
          with_reducible rfl
        rotate_left
        · simp only [Act.put, List.setIfInBounds_toArray, List.set_cons_zero, List.set_cons_succ, i64_w, i32_w]
          rfl
        refine one_ (i := 9) (N := some 47) #[true, true, true, true, true, true, true, true, true, true, false, false] rfl rfl (by kernel_rfl) (by decide) (fun K hK => ?_)
        refine goes_ Try.func64 (by kernel_rfl) rfl #[.pointer (some ⟨g, 0, none⟩), .agg #[.int .i64 x.f4[i].f0, .string x.f4[i].f1, .int .i64 x.f4[i].f2, .slice G3 x.f4[i].f3.length m3, .slice G4 x.f4[i].f4.length m4]] (by rfl) rfl rfl (by (try simp only [List.map_toArray, List.map_cons, List.map_nil]); first | done | rfl) ?_
        refine (HYS.out i hlt (by have := HYL.out; omega) g G3 m3 G4 m4 w0 wd HD.out.dr.is HD.out.dr.b HKD.out).mono ?_
        rintro e w7 ⟨u3, u4, rfl, hn, hi7, hb7, hk7⟩
        refine ⟨_, rfl, ?_⟩
        have hy9 : i < ys.length := by have := HYL.out; omega
        obtain ⟨U3, n3_, U4, n4_, rfl, rfl⟩ : ∃ U3 n3 U4 n4, u3 = .slice U3 (ys[i]'hy9).f3.length n3 ∧ u4 = .slice U4 (ys[i]'hy9).f4.length n4 := by
          obtain ⟨fk, hk2, _⟩ := hn
          obtain ⟨J3, q3, J4, q4, e3, e4, _⟩ := hk2.In
          exact ⟨J3, q3, J4, q4, e3, e4⟩
        have H7 := Lib.hid (HD.out.call hi7 hb7 hk7)
        have HN := Lib.hid hn
        have HK7 := Lib.hid hk7
        clear hn hi7 hb7 hk7
        refine hK.out _ _ (SK.out _ _ H7.out) (fun hHeld => ?_)
        clear hK K
        refine norm_ (a' := ?_) ?_ ?_
        rotate_left
        · show Act.put _ (some 47) _ = _
          simp only [Act.put, List.setIfInBounds_toArray, List.set_cons_zero, List.set_cons_succ, i64_w, i32_w]
          rfl
        refine pure_ (i := 10) (N := some 48) (v := ?_) (a' := ?_) #[true, true, true, true, true, true, true, true, true, true, true, false] rfl rfl (by kernel_rfl) (fun _ _ _ h => h) (Or.inl ⟨by rfl, ?_⟩) ?_ ?_
        rotate_left
        · intro w'
          go_simp
          with_reducible rfl
        rotate_left
        · simp only [Act.put, List.setIfInBounds_toArray, List.set_cons_zero, List.set_cons_succ, i64_w, i32_w]
          rfl
        refine last_ (i := 11) (N := none) #[true, true, true, true, true, true, true, true, true, true, true, true] rfl rfl (by kernel_rfl) (by decide) (fun K hK => ?_)
        obtain ⟨_, z0, z1, z2, z3, z4⟩ := SK.out _ _ H7.out
        have hfz := (row_put (by have := H7.out.o4; rw [HLEN.out] at this; exact this) HLA.out).2.1
        have f0 := hfz (i * 5)
        have f1 := hfz (i * 5 + 1)
        have f2 := hfz (i * 5 + 2)
        have f3 := hfz (i * 5 + 3)
        have f4 := hfz (i * 5 + 4)
        clear hfz
        have HX := Lib.hid (show ys.take i ++ ys[i] :: x.f4.drop (i + 1) = ys.take (i + 1) ++ x.f4.drop (i + 1) from by rw [List.take_succ_eq_append_getElem hy9, List.append_assoc]; rfl)
        have hla2 : (ys.take i).length = i := by have := HYL.out; simp; omega
        have hltd := HD.out.lt
        obtain ⟨fp', hC7⟩ := H7.out.kid (B := wd.heap.size) HLEN.out.symm (by rw [List.drop_eq_getElem_cons hlt]) rfl rfl (HTA.out.move _ (fun b hb => by have hl := HC.out.lt b (by simp [hb]); have hge := HC.out.ge b (by simp [hb]); have hg0 := HC.out.dr.lt; rw [HK7.out.2 b (by have := HD.out.lt b (by simp [hb]); omega) (by omega) (by simp)]; exact HDK.out b hl)) (HTB.out.move _ (fun b hb => by have hl := HC.out.lt b (by simp [hb]); have hge := HC.out.ge b (by simp [hb]); have hg0 := HC.out.dr.lt; rw [HK7.out.2 b (by have := HD.out.lt b (by simp [hb]); omega) (by omega) (by simp)]; exact HDK.out b hl)) hltd HD.out.lts.2 HD.out.lts.1 HN.out
        rw [hla2] at hC7
        rw [HX.out] at hC7
        have HC7 := Lib.hid hC7
        clear hC7 hla2 hltd
        refine skip_ (w1 := ?_) (by rfl) rfl ?_ ?_
        rotate_left
        · go_simp
          rfl
        refine hK.out _ _ ?_
        clear hK K z0 z1 z2 z3 z4 f0 f1 f2 f3 f4
        refine done_ (by kernel_rfl) ?_
        try go_wp2
        go_roundg (x.f4.length - (i + 1))
        case measure => omega
        case rel => exact ⟨i + 1, by omega, Nat.le_refl _, by go_num, ⟨⟨_, _, HC7.out⟩⟩⟩
      · obtain rfl : i = x.f4.length := by omega
        obtain ⟨inner, fp, hC⟩ := HO.out
        rw [List.drop_length, List.append_nil, List.take_of_length_le (by have := HYL.out; omega)] at hC
        have hyl2 := HYL.out
        obtain ⟨p0, p1_, p2, p3, p4⟩ := fm_cells hC.k3
        obtain ⟨z0, z1, z2, z3, z4⟩ := fm_cells hC.k2
        obtain ⟨f0, f1, f2, f3, f4⟩ := fm_free hC.k2
        have hn1 : w1.heap.size ≠ w.heap.size + 1 := by have := hC.h3; omega
        have hn2 : w.heap.size + 1 ≠ w1.heap.size := fun e => hn1 e.symm
        obtain ⟨st1, st2, st3⟩ := st5 hC.k2 (.int .i64 x.f0) (.string x.f1) (.int .i64 x.f2) (.slice D3 y3.length e3) (.slice J4 x.f4.length q4)
        have HN := Lib.hid (hC.newF st2)
        have hdr := hC.dr.put5 (b := w.heap.size + 1) (by omega) (.int .i64 x.f0) (.string x.f1) (.int .i64 x.f2) (.slice D3 y3.length e3) (.slice J4 x.f4.length q4)
        rw [HPN.out] at hdr
        have HB := Lib.hid hdr
        clear hC HO st1 st2 st3 hdr hyl2
        go_wp2_with fail
        refine bodyPost_ret (v := .agg #[.int .i64 x.f0, .string x.f1, .int .i64 x.f2, .slice D3 y3.length e3, .slice J4 x.f4.length q4]) (by simp [results, Try.results64, go_sem, z0, z1, z2, z3, z4]) rfl ?_
        exact ⟨_, _, rfl, HN.out, HB.out.is, HB.out.b, HB.out.kp⟩
end Go.Proofs.Ytcbomlmlindjdaa
end
section
namespace Go.Proofs.Ytcbomlmlindjdaa
open Go.RowKit Go.Proofs.YtcbomlmlindjdaaW.PrintWords
set_option linter.unusedVariables false
set_option linter.unusedSimpArgs false
/-- What l1Dress keeps of a form, and what it gives to a name. -/
structure Drs (x y : Fm) : Prop where
  f0 : y.f0 = x.f0
  f1 : y.f1 = x.f1
  f2 : y.f2 = x.f2
  f3 : x.f0 = 1 → y.f3 ∈ sets7
  f4 : x.f4 = [] → y.f4 = []
def DressEx (s : List Int) (x : Fm) : Prop := ∀ p : Nat, p + x.size ≤ 1000000 → ∃ (y : Fm) (q : Nat), q ≤ p + x.size ∧ y.tot ≤ x.tot + 3 * x.size ∧ y.size = x.size ∧ Drs x y ∧ DressOk s x p y q
theorem dress_list {s : List Int} : ∀ (ks : List Fm), (∀ k, k ∈ ks → DressEx s k) → ∀ p : Nat, p + sizes ks ≤ 1000000 → ∃ (ys : List Fm) (ps : Nat → Nat), ys.length = ks.length ∧ ps 0 = p ∧ ps ks.length ≤ p + sizes ks ∧ totL ys ≤ totL ks + 3 * sizes ks ∧ sizes ys = sizes ks ∧ ∀ (i : Nat) (hi : i < ks.length) (hi2 : i < ys.length), DressOk s ks[i] (ps i) ys[i] (ps (i + 1))
  | [], _, p, _ => ⟨[], fun _ => p, rfl, rfl, by simp [sizes], by simp [totL], rfl, fun i hi => absurd hi (by simp)⟩
  | k :: ks, ih, p, hp => by
    simp only [sizes] at hp
    obtain ⟨y, q, h1, h2, h3, _, h5⟩ := ih k List.mem_cons_self p (by omega)
    obtain ⟨ys, ps, a1, a2, a3, a4, a5, a6⟩ := dress_list ks (fun k' hk => ih k' (List.mem_cons_of_mem _ hk)) q (by omega)
    refine ⟨y :: ys, fun i => match i with | 0 => p | i + 1 => ps i, by simp [a1], rfl, by simp only [List.length_cons, sizes]; omega, by simp only [totL, sizes]; omega, by simp only [sizes]; omega, fun i hi hi2 => ?_⟩
    cases i with
    | zero => simpa [a2] using h5
    | succ i => simpa using a6 i (by simpa using hi) (by simpa using hi2)
theorem sets7_mem {j : Nat} (hj : j < 7) : sets7[j] ∈ sets7 := List.getElem_mem hj
theorem sets7_len : ∀ z, z ∈ sets7 → z.length ≤ 3 := by
  intro z hz
  simp only [sets7, List.mem_cons, List.not_mem_nil, or_false] at hz
  rcases hz with h | h | h | h | h | h | h <;> simp [h]
theorem dress_ex {s : List Int} (hs : Bts s) : ∀ x : Fm, x.tot ≤ 100000 → DressEx s x := by
  intro x
  induction x using Fm.ind with
  | h x ih =>
    intro ht p hp
    have hsz := x.size_eq
    have htt := x.tot_eq
    obtain ⟨v, hv, hpick⟩ := ev_pick hs p (by omega) 7 (by omega)
    obtain ⟨j, rfl⟩ := Int.eq_ofNat_of_zero_le (hv (by omega)).1
    have hj : j < 7 := by have := (hv (by omega)).2; omega
    have hp1 : (if x.f0 = 1 then p + 1 else p) ≤ p + 1 := by split <;> omega
    obtain ⟨ys, ps, a1, a2, a3, a4, a5, a6⟩ := dress_list x.f4 (fun k hk => ih k hk (by have := totL_mem hk; omega)) (if x.f0 = 1 then p + 1 else p) (by omega)
    have h7 := sets7_len _ (sets7_mem hj)
    have hy3 : (if x.f0 = 1 then sets7[j] else x.f3).length ≤ x.f3.length + 3 := by split <;> omega
    refine ⟨⟨x.f0, x.f1, x.f2, if x.f0 = 1 then sets7[j] else x.f3, ys⟩, ps x.f4.length, by omega, ?_, ?_, ⟨rfl, rfl, rfl, fun h => ?_, fun h => ?_⟩, ?_⟩
    · rw [Fm.tot_eq]; dsimp only; omega
    · rw [Fm.size_eq]; dsimp only; omega
    · dsimp only; rw [if_pos h]; exact sets7_mem hj
    · dsimp only; rw [h] at a1; exact List.eq_nil_of_length_eq_zero (by simpa using a1)
    · exact dress_walk x p _ _ j hj _ ys ps ht hpick rfl rfl a1 a2 rfl a6
end Go.Proofs.Ytcbomlmlindjdaa
end
section
namespace Go.Proofs.Ytcbomlmlindjdaa
open Go.RowKit Go.Proofs.YtcbomlmlindjdaaW.PrintWords Go.Proofs.YtcbomlmlindjdaaW.PrintLast Go.Proofs.YtcbomlmlindjdaaW.PrintMore
set_option linter.unusedVariables false
set_option linter.unusedSimpArgs false
theorem reads_strs {W : World} {b : Nat} {cs : Array Value} {l : List ByteArray} (hb : W.heap[b]? = some (.cells cs 9 (0, 0))) (hl : l.length ≤ 1000) (hcs : cs.toList = l.map Value.string) : Kd.string.C W (some ⟨b, 0, none⟩) l.length l := by
  refine Kd.C_of_reads (d := ByteArray.empty) (h1 := fun _ => rfl) ⟨rfl, by omega, fun hn => ⟨⟨b, 0, none⟩, rfl, fun i hi => ?_⟩⟩
  rw [add_plain, blk_cell hb i]
  have h9 := congrArg (fun z => z[i]?) hcs
  simp only [Array.getElem?_toList, List.getElem?_map] at h9
  rw [h9, List.getElem?_eq_getElem hi, List.getD_eq_getElem?_getD, List.getElem?_eq_getElem hi]
  rfl
abbrev badNms : List ByteArray := [(⟨#[]⟩ : ByteArray), (⟨#[65]⟩ : ByteArray), (⟨#[116, 111, 111, 108, 111, 110, 103, 97, 110, 97, 109, 101, 49]⟩ : ByteArray), (⟨#[122]⟩ : ByteArray), (⟨#[120, 32, 121]⟩ : ByteArray)]
def MutOk (s : List Int) (x : Fm) (p : Nat) (y : Fm) (q : Nat) : Prop := ∀ (g : Nat) (A3 : Option Addr) (c3 : Nat) (A4 : Option Addr) (c4 : Nat) (w0 w : World), IsRd w0 w g s (p : Int) → Below w0.heap.size w0 w → FmIn w x A3 c3 A4 c4 →
  Calls Try.prog 80 #[.pointer (some ⟨g, 0, none⟩), .agg #[.int .i64 x.f0, .string x.f1, .int .i64 x.f2, .slice A3 x.f3.length c3, .slice A4 x.f4.length c4]] w (DrPost w0 g s (q : Int) y w)
set_option maxHeartbeats 4000000 in
set_option maxRecDepth 100000 in
theorem mut_rec {s : List Int} (x : Fm) (p q : Nat) (v : Int) (i : Nat) (y : Fm) (ht : x.tot ≤ 200000) (hlt : i < x.f4.length) (hv : 0 < v) (h2 : Ev (fun k => Q.spec_l15Rd_pick.f k s (p : Int) 2) (v, ((p + 1 : Nat) : Int))) (hk : Ev (fun k => Q.spec_l15Rd_pick.f k s ((p + 1 : Nat) : Int) (x.f4.length : Int)) ((i : Int), ((p + 2 : Nat) : Int))) (hm : MutOk s x.f4[i] (p + 2) y q) : MutOk s x p ⟨x.f0, x.f1, x.f2, x.f3, x.f4.take i ++ y :: x.f4.drop (i + 1)⟩ q := by
  obtain ⟨ka, hka⟩ := h2.rounds
  obtain ⟨kb, hkb⟩ := hk.rounds
  have HKA := Lib.hid hka
  have HKB := Lib.hid hkb
  have HM := Lib.hid hm
  have HV := Lib.hid hv
  clear h2 hk hka hkb hm hv
  intro g A3 c3 A4 c4 w0 w hi hb hin
  have hmax := hin.g4.2.1
  have HI := Lib.hid hin
  have HD0 := Lib.hid (Dr.new hi hb)
  have HT := Lib.hid ht
  have hlen := len_totL x.f4
  have hxt := x.tot_eq
  have HLN := Lib.hid (show x.f4.length ≤ 200000 by omega)
  have HL3 := Lib.hid (show x.f3.length ≤ 200000 by omega)
  clear hin hi hb ht hlen hxt
  go_enter Try.func80, Try.ntmps80
  go_wp2_with fail
  refine (l1Copy_any x A3 c3 A4 c4 _ (HI.out.below (below_step (below_new _ _) (below_new _ _))) (by have := HT.out; omega)).mono ?_
  rintro e w1 ⟨u3, u4, rfl, hn, hb1⟩
  obtain ⟨J3, q3, J4, q4, rfl, rfl⟩ : ∃ J3 q3 J4 q4, u3 = .slice J3 x.f3.length q3 ∧ u4 = .slice J4 x.f4.length q4 := by
    obtain ⟨fk, hk2, _⟩ := hn
    obtain ⟨J3, q3, J4, q4, e3, e4, _⟩ := hk2.In
    exact ⟨J3, q3, J4, q4, e3, e4⟩
  obtain ⟨k1, k2, b1⟩ := two_new hb1
  rw [show ((w.alloc (.cells #[.int .i64 x.f0, .string x.f1, .int .i64 x.f2, .slice A3 x.f3.length c3, .slice A4 x.f4.length c4] 30)).alloc (.cells #[.int .i64 0, .string ⟨#[]⟩, .int .i64 0, .slice none 0 0, .slice none 0 0] 30)).heap.size = w.heap.size + 2 from by simp] at hn
  obtain ⟨inner, fp, hdp⟩ := Dp.start (HD0.out.later b1) k1 k2 hn
  have HDP := Lib.hid hdp
  clear hb1 hn k1 k2 b1 hdp
  have t1 : decide ((x.f4.length : Int) > 0) = true := decide_eq_true (by omega)
  have t1' : decide (0 < x.f4.length) = true := decide_eq_true (by omega)
  have t2 : decide (v > 0) = true := decide_eq_true HV.out
  go_wp2_with fail
  refine (Q.spec_l15Rd_pick.calls ka g s _ 2 v _ w0 _ HDP.out.dr.is HDP.out.dr.b HKA.out).mono ?_
  rintro e w2 ⟨rfl, hi, hb, hk⟩
  have hw2 := Lib.hid (HDP.out.call hi hb hk)
  clear hi hb hk
  have z4 := (fm_cells hw2.out.k3).2.2.2.2
  go_wp2_with fail
  refine (Q.spec_l15Rd_pick.calls kb g s _ (x.f4.length : Int) (i : Int) _ w0 _ hw2.out.dr.is hw2.out.dr.b HKB.out).mono ?_
  rintro e w3 ⟨rfl, hi, hb, hk⟩
  have hw3 := Lib.hid (hw2.out.call hi hb hk)
  clear hi hb hk
  obtain ⟨gr, cap, e, hgr0, hgr1⟩ := hw3.out.o4.form (by omega)
  obtain ⟨rfl, rfl⟩ : J4 = some ⟨gr, 0, none⟩ ∧ q4 = cap := by injection e with e1 _ e2; exact ⟨e1, e2⟩
  clear e
  have hdr : x.f4 = x.f4.take i ++ x.f4[i] :: x.f4.drop (i + 1) := by rw [← List.drop_eq_getElem_cons hlt, List.take_append_drop]
  have htr := hw3.out.tr
  obtain ⟨ia, ib0, fa, fb0, hin1, hfp1, hta, htb0⟩ := TrL.split (x.f4.take i) (b := x.f4[i] :: x.f4.drop (i + 1)) (by rw [← hdr]; exact htr)
  obtain ⟨z3, z4', ib, fx, fb, rfl, rfl, htx, htb⟩ := TrL.cons_inv htb0
  subst hin1 hfp1
  have hla := hta.len
  rw [List.length_take, Nat.min_eq_left (by omega)] at hla
  obtain ⟨G3, m3, G4, m4, rfl, rfl, hkin⟩ := htx.In
  have HDRX := Lib.hid hdr
  have HTA := Lib.hid hta
  have HTB := Lib.hid htb
  have HLA := Lib.hid hla
  have HKIN := Lib.hid hkin
  have SK := Lib.hid (fun (W : World) (q' : Int) (h : Dp w0 w g s q' (.cells #[.int .i64 x.f0, .string x.f1, .int .i64 x.f2, .slice A3 x.f3.length c3, .slice A4 x.f4.length c4] 30) (.cells #[.int .i64 0, .string ⟨#[]⟩, .int .i64 0, .slice none 0 0, .slice none 0 0] 30) w1.heap.size x.f0 x.f1 x.f2 x.f3 x.f4 (.slice J3 x.f3.length q3) (.slice (some ⟨gr, 0, none⟩) x.f4.length q4) (ia ++ ([.int .i64 x.f4[i].f0, .string x.f4[i].f1, .int .i64 x.f4[i].f2, .slice G3 x.f4[i].f3.length m3, .slice G4 x.f4[i].f4.length m4] ++ ib)) (fa ++ (fx ++ fb)) W) => (⟨(fm_cells h.k3).2.2.2.2, (row_put h.o4 hla).1⟩ : (fun W : World => W.cell? ⟨w1.heap.size, 4, none⟩ = some (.slice (some ⟨gr, 0, none⟩) x.f4.length q4) ∧ W.cell? ⟨gr, i * 5, none⟩ = some (.int .i64 x.f4[i].f0) ∧ W.cell? ⟨gr, i * 5 + 1, none⟩ = some (.string x.f4[i].f1) ∧ W.cell? ⟨gr, i * 5 + 2, none⟩ = some (.int .i64 x.f4[i].f2) ∧ W.cell? ⟨gr, i * 5 + 3, none⟩ = some (.slice G3 x.f4[i].f3.length m3) ∧ W.cell? ⟨gr, i * 5 + 4, none⟩ = some (.slice G4 x.f4[i].f4.length m4)) W))
  have hp4 := (SK.out _ _ hw3.out).1
  have s1 : (0 : Int) ≤ (i : Int) := by omega
  have s2 : (i : Int) < (x.f4.length : Int) := by omega
  clear hdr htr hta htb htb0 htx hla hkin hgr0 hgr1 z4 HDP hw2
  go_wp2_with fail
  have HD := Lib.hid (hw3.out.later (below_drew (Below.refl _ _)))
  have HKD := Lib.hid (HKIN.out.below (below_drew (Below.refl _ _)))
  have HDK := Lib.hid (fun b (hb : b < w3.heap.size) => (below_drew (Below.refl w3.heap.size w3)).block b hb)
  refine start_ (n := 12) (S := (fun W : World => W.cell? ⟨w1.heap.size, 4, none⟩ = some (.slice (some ⟨gr, 0, none⟩) x.f4.length q4) ∧ W.cell? ⟨gr, i * 5, none⟩ = some (.int .i64 x.f4[i].f0) ∧ W.cell? ⟨gr, i * 5 + 1, none⟩ = some (.string x.f4[i].f1) ∧ W.cell? ⟨gr, i * 5 + 2, none⟩ = some (.int .i64 x.f4[i].f2) ∧ W.cell? ⟨gr, i * 5 + 3, none⟩ = some (.slice G3 x.f4[i].f3.length m3) ∧ W.cell? ⟨gr, i * 5 + 4, none⟩ = some (.slice G4 x.f4[i].f4.length m4))) (ds := [11]) #[false, false, false, false, false, false, false, false, false, false, false, false] (by kernel_rfl) rfl rfl (SK.out _ _ HD.out) (fun hHeld => ?_)
  clear hp4
  generalize w3.drew = wd at HD HKD HDK hHeld ⊢
  refine pure_ (i := 0) (N := some 23) (v := ?_) (a' := ?_) #[true, false, false, false, false, false, false, false, false, false, false, false] rfl rfl (by kernel_rfl) (fun _ _ _ h => h) (Or.inl ⟨by rfl, ?_⟩) ?_ ?_
  rotate_left
  · intro w'
    go_simp
    with_reducible rfl
  rotate_left
  · simp only [Act.put, List.setIfInBounds_toArray, List.set_cons_zero, List.set_cons_succ, i64_w, i32_w]
    rfl
  refine pure_ (i := 2) (N := some 25) (v := ?_) (a' := ?_) #[true, false, true, false, false, false, false, false, false, false, false, false] rfl rfl (by kernel_rfl) (fun _ _ _ h => h) (Or.inl ⟨by rfl, ?_⟩) ?_ ?_
  rotate_left
  · intro w'
    go_simp
    with_reducible rfl
  rotate_left
  · simp only [Act.put, List.setIfInBounds_toArray, List.set_cons_zero, List.set_cons_succ, i64_w, i32_w]
    rfl
  refine pure_ (i := 3) (N := some 26) (v := ?_) (a' := ?_) #[true, false, true, true, false, false, false, false, false, false, false, false] rfl rfl (by kernel_rfl) (fun _ _ _ h => h) (Or.inl ⟨by rfl, ?_⟩) ?_ ?_
  rotate_left
  · intro w'
    go_simp
    with_reducible rfl
  rotate_left
  · simp only [Act.put, List.setIfInBounds_toArray, List.set_cons_zero, List.set_cons_succ, i64_w, i32_w]
    rfl
  refine pure_ (i := 4) (N := some 27) (v := ?_) (a' := ?_) #[true, false, true, true, true, false, false, false, false, false, false, false] rfl rfl (by kernel_rfl) (fun _ _ _ h => h) (Or.inl ⟨by rfl, ?_⟩) ?_ ?_
  rotate_left
  · intro w'
    go_simp
    with_reducible rfl
  rotate_left
  · simp only [Act.put, List.setIfInBounds_toArray, List.set_cons_zero, List.set_cons_succ, i64_w, i32_w]
    rfl
  refine pure_ (i := 6) (N := some 29) (v := ?_) (a' := ?_) #[true, false, true, true, true, false, true, false, false, false, false, false] rfl rfl (by kernel_rfl) (fun _ _ _ h => h) (Or.inl ⟨by rfl, ?_⟩) ?_ ?_
  rotate_left
  · intro w'
    go_simp
    with_reducible rfl
  rotate_left
  · simp only [Act.put, List.setIfInBounds_toArray, List.set_cons_zero, List.set_cons_succ, i64_w, i32_w]
    rfl
  refine take_ (i := 1) (N := some 24) (v := ?_) (a' := ?_) #[true, true, true, true, true, false, true, false, false, false, false, false] rfl rfl (by kernel_rfl) (fun _ _ _ h => h) (Or.inl ⟨by rfl, ?_⟩) hHeld ?_ ?_
  rotate_left
  · rintro w' ⟨s0, e0, e1, e2, e3_, e4⟩
    go_simp
    with_reducible rfl
  rotate_left
  · simp only [Act.put, List.setIfInBounds_toArray, List.set_cons_zero, List.set_cons_succ, i64_w, i32_w]
    rfl
  refine take_ (i := 5) (N := some 28) (v := ?_) (a' := ?_) #[true, true, true, true, true, true, true, false, false, false, false, false] rfl rfl (by kernel_rfl) (fun _ _ _ h => h) (Or.inl ⟨by rfl, ?_⟩) hHeld ?_ ?_
  rotate_left
  · rintro w' ⟨s0, e0, e1, e2, e3_, e4⟩
    go_simp
    with_reducible rfl
  rotate_left
  · simp only [Act.put, List.setIfInBounds_toArray, List.set_cons_zero, List.set_cons_succ, i64_w, i32_w]
    rfl
  refine pure_ (i := 7) (N := some 30) (v := ?_) (a' := ?_) #[true, true, true, true, true, true, true, true, false, false, false, false] rfl rfl (by kernel_rfl) (fun _ _ _ h => h) (Or.inl ⟨by rfl, ?_⟩) ?_ ?_
  rotate_left
  · intro w'
    go_simp
    with_reducible rfl
  rotate_left
  · simp only [Act.put, List.setIfInBounds_toArray, List.set_cons_zero, List.set_cons_succ, i64_w, i32_w]
    rfl
  refine take_ (i := 8) (N := some 31) (v := ?_) (a' := ?_) #[true, true, true, true, true, true, true, true, true, false, false, false] rfl rfl (by kernel_rfl) (fun _ _ _ h => h) (Or.inl ⟨by rfl, ?_⟩) hHeld ?_ ?_
  rotate_left
  · rintro w' ⟨s0, e0, e1, e2, e3_, e4⟩
    go_simp
    with_reducible rfl
  rotate_left
  · simp only [Act.put, List.setIfInBounds_toArray, List.set_cons_zero, List.set_cons_succ, i64_w, i32_w]
    rfl
  refine one_ (i := 9) (N := some 32) #[true, true, true, true, true, true, true, true, true, true, false, false] rfl rfl (by kernel_rfl) (by decide) (fun K hK => ?_)
  refine goes_ Try.func80 (by kernel_rfl) rfl #[.pointer (some ⟨g, 0, none⟩), .agg #[.int .i64 x.f4[i].f0, .string x.f4[i].f1, .int .i64 x.f4[i].f2, .slice G3 x.f4[i].f3.length m3, .slice G4 x.f4[i].f4.length m4]] (by rfl) rfl rfl (by (try simp only [List.map_toArray, List.map_cons, List.map_nil]); first | done | rfl) ?_
  refine (HM.out g G3 m3 G4 m4 w0 wd HD.out.dr.is HD.out.dr.b HKD.out).mono ?_
  rintro e w7 ⟨u3, u4, rfl, hn, hi7, hb7, hk7⟩
  refine ⟨_, rfl, ?_⟩
  obtain ⟨U3, n3_, U4, n4_, rfl, rfl⟩ : ∃ U3 n3 U4 n4, u3 = .slice U3 y.f3.length n3 ∧ u4 = .slice U4 y.f4.length n4 := by
    obtain ⟨fk, hk2, _⟩ := hn
    obtain ⟨J3, q3, J4, q4, e3, e4, _⟩ := hk2.In
    exact ⟨J3, q3, J4, q4, e3, e4⟩
  have H7 := Lib.hid (HD.out.call hi7 hb7 hk7)
  have HN := Lib.hid hn
  have HK7 := Lib.hid hk7
  clear hn hi7 hb7 hk7
  refine hK.out _ _ (SK.out _ _ H7.out) (fun hHeld => ?_)
  clear hK K
  refine norm_ (a' := ?_) ?_ ?_
  rotate_left
  · show Act.put _ (some 32) _ = _
    simp only [Act.put, List.setIfInBounds_toArray, List.set_cons_zero, List.set_cons_succ, i64_w, i32_w]
    rfl
  refine pure_ (i := 10) (N := some 33) (v := ?_) (a' := ?_) #[true, true, true, true, true, true, true, true, true, true, true, false] rfl rfl (by kernel_rfl) (fun _ _ _ h => h) (Or.inl ⟨by rfl, ?_⟩) ?_ ?_
  rotate_left
  · intro w'
    go_simp
    with_reducible rfl
  rotate_left
  · simp only [Act.put, List.setIfInBounds_toArray, List.set_cons_zero, List.set_cons_succ, i64_w, i32_w]
    rfl
  refine last_ (i := 11) (N := none) #[true, true, true, true, true, true, true, true, true, true, true, true] rfl rfl (by kernel_rfl) (by decide) (fun K hK => ?_)
  obtain ⟨_, z0, z1, z2, z3, z4⟩ := SK.out _ _ H7.out
  have hfz := (row_put H7.out.o4 HLA.out).2.1
  have f0 := hfz (i * 5)
  have f1 := hfz (i * 5 + 1)
  have f2 := hfz (i * 5 + 2)
  have f3 := hfz (i * 5 + 3)
  have f4 := hfz (i * 5 + 4)
  clear hfz
  have hla2 : (x.f4.take i).length = i := by simp; omega
  have hltd := HD.out.lt
  obtain ⟨fp', hC7⟩ := H7.out.kid (B := wd.heap.size) rfl HDRX.out rfl rfl (HTA.out.move _ (fun b hb => by have hl := hw3.out.lt b (by simp [hb]); have hge := hw3.out.ge b (by simp [hb]); have hg0 := hw3.out.dr.lt; rw [HK7.out.2 b (by have := HD.out.lt b (by simp [hb]); omega) (by omega) (by simp)]; exact HDK.out b hl)) (HTB.out.move _ (fun b hb => by have hl := hw3.out.lt b (by simp [hb]); have hge := hw3.out.ge b (by simp [hb]); have hg0 := hw3.out.dr.lt; rw [HK7.out.2 b (by have := HD.out.lt b (by simp [hb]); omega) (by omega) (by simp)]; exact HDK.out b hl)) hltd HD.out.lts.2 HD.out.lts.1 HN.out
  rw [hla2] at hC7
  have HC7 := Lib.hid hC7
  clear hC7 hla2 hltd
  refine skip_ (w1 := ?_) (by rfl) rfl ?_ ?_
  rotate_left
  · go_simp
    rfl
  refine hK.out _ _ ?_
  clear hK K
  clear z0 z1 z2 z3 z4 f0 f1 f2 f3 f4
  refine done_ (by kernel_rfl) ?_
  have hC := HC7.out
  obtain ⟨p0, p1_, p2, p3, p4⟩ := fm_cells hC.k3
  obtain ⟨z0, z1, z2, z3, z4⟩ := fm_cells hC.k2
  obtain ⟨f0, f1, f2, f3, f4⟩ := fm_free hC.k2
  have hn1 : w1.heap.size ≠ w.heap.size + 1 := by have := hC.h3; omega
  have hn2 : w.heap.size + 1 ≠ w1.heap.size := fun e => hn1 e.symm
  have hl9 : (x.f4.take i ++ y :: x.f4.drop (i + 1)).length = x.f4.length := by simp; omega
  obtain ⟨st1, st2, st3⟩ := st5 HC7.out.k2 (.int .i64 x.f0) (.string x.f1) (.int .i64 x.f2) (.slice J3 x.f3.length q3) (.slice (some ⟨gr, 0, none⟩) x.f4.length q4)
  have HN := Lib.hid (HC7.out.newF st2)
  have HB := Lib.hid (HC7.out.dr.put5 (b := w.heap.size + 1) (by omega) (.int .i64 x.f0) (.string x.f1) (.int .i64 x.f2) (.slice J3 x.f3.length q3) (.slice (some ⟨gr, 0, none⟩) x.f4.length q4))
  clear st1 st2 st3
  have HL9 := Lib.hid hl9
  clear hC hl9
  go_wp2_with fail
  refine bodyPost_ret (v := .agg #[.int .i64 x.f0, .string x.f1, .int .i64 x.f2, .slice J3 x.f3.length q3, .slice (some ⟨gr, 0, none⟩) x.f4.length q4]) (by simp [results, Try.results80, go_sem, z0, z1, z2, z3, z4]) rfl ?_
  exact ⟨_, _, rfl, HN.out, HB.out.is, HB.out.b, HB.out.kp⟩
set_option maxHeartbeats 8000000 in
set_option maxRecDepth 100000 in
theorem mut_stop {s : List Int} (x : Fm) (p p1 q : Nat) (c : Int) (y : Fm) (ht : x.tot ≤ 200000)
    (hp1 : (x.f4 = [] ∧ p1 = p) ∨ (x.f4 ≠ [] ∧ p1 = p + 1 ∧ ∃ v : Int, v ≤ 0 ∧ Ev (fun k => Q.spec_l15Rd_pick.f k s (p : Int) 2) (v, ((p + 1 : Nat) : Int)))) (hc : Ev (fun k => Q.spec_l15Rd_pick.f k s (p1 : Int) 14) (c, ((p1 + 1 : Nat) : Int)))
    (h0 : c = 0 → ∃ n : Int, Ev (fun k => Q.spec_l15Rd_num.f k s ((p1 + 1 : Nat) : Int) [0, 4, 1, 3]) (n, ((p1 + 2 : Nat) : Int)) ∧ y = ⟨n, x.f1, x.f2, x.f3, x.f4⟩ ∧ q = p1 + 2)
    (h1 : c = 1 → ∃ n : ByteArray, Ev (fun k => Q.spec_l15Rd_of.f k s ((p1 + 1 : Nat) : Int) badNms) (n, ((p1 + 2 : Nat) : Int)) ∧ y = ⟨x.f0, n, x.f2, x.f3, x.f4⟩ ∧ q = p1 + 2)
    (h2 : c = 2 → ∃ n : Int, Ev (fun k => Q.spec_l15Rd_num.f k s ((p1 + 1 : Nat) : Int) [1000, -1, 5]) (n, ((p1 + 2 : Nat) : Int)) ∧ y = ⟨x.f0, x.f1, n, x.f3, x.f4⟩ ∧ q = p1 + 2)
    (h3 : c = 3 → ∃ n : Int, Ev (fun k => Q.spec_l15Rd_num.f k s ((p1 + 1 : Nat) : Int) [0, 100, 1, 50]) (n, ((p1 + 2 : Nat) : Int)) ∧ y = ⟨x.f0, x.f1, x.f2, x.f3 ++ [n], x.f4⟩ ∧ q = p1 + 2)
    (h4 : c ≠ 0 → c ≠ 1 → c ≠ 2 → c ≠ 3 → y = ⟨x.f0, x.f1, x.f2, x.f3, x.f4⟩ ∧ q = p1 + 1) : MutOk s x p y q := by
  obtain ⟨kc, hkc⟩ := hc.rounds
  have HKC := Lib.hid hkc
  have HP1 := Lib.hid hp1
  have H0 := Lib.hid h0
  have H1 := Lib.hid h1
  have H2 := Lib.hid h2
  have HS3 := Lib.hid h3
  have H4 := Lib.hid h4
  clear hc hkc hp1 h0 h1 h2 h3 h4
  intro g A3 c3 A4 c4 w0 w hi hb hin
  have hmax := hin.g4.2.1
  have HI := Lib.hid hin
  have HD0 := Lib.hid (Dr.new hi hb)
  have HT := Lib.hid ht
  have hlen := len_totL x.f4
  have hxt := x.tot_eq
  have HLN := Lib.hid (show x.f4.length ≤ 200000 by omega)
  have HL3 := Lib.hid (show x.f3.length ≤ 200000 by omega)
  clear hin hi hb ht hlen hxt
  go_enter Try.func80, Try.ntmps80
  go_wp2_with fail
  refine (l1Copy_any x A3 c3 A4 c4 _ (HI.out.below (below_step (below_new _ _) (below_new _ _))) (by have := HT.out; omega)).mono ?_
  rintro e w1 ⟨u3, u4, rfl, hn, hb1⟩
  obtain ⟨J3, q3, J4, q4, rfl, rfl⟩ : ∃ J3 q3 J4 q4, u3 = .slice J3 x.f3.length q3 ∧ u4 = .slice J4 x.f4.length q4 := by
    obtain ⟨fk, hk2, _⟩ := hn
    obtain ⟨J3, q3, J4, q4, e3, e4, _⟩ := hk2.In
    exact ⟨J3, q3, J4, q4, e3, e4⟩
  obtain ⟨k1, k2, b1⟩ := two_new hb1
  rw [show ((w.alloc (.cells #[.int .i64 x.f0, .string x.f1, .int .i64 x.f2, .slice A3 x.f3.length c3, .slice A4 x.f4.length c4] 30)).alloc (.cells #[.int .i64 0, .string ⟨#[]⟩, .int .i64 0, .slice none 0 0, .slice none 0 0] 30)).heap.size = w.heap.size + 2 from by simp] at hn
  obtain ⟨inner, fp, hdp⟩ := Dp.start (HD0.out.later b1) k1 k2 hn
  have HDP := Lib.hid hdp
  clear hb1 hn k1 k2 b1 hdp
  go_upto_region 2 with fail
  (try simp only [Act.put, List.setIfInBounds_toArray, List.set_cons_zero, List.set_cons_succ])
  go_cut [17] (fun v17 wc => ∃ (inner : List Value) (fp : List Nat), v17 = .bool false ∧ Aside0 (Dp w0 w g s (p1 : Int) (.cells #[.int .i64 x.f0, .string x.f1, .int .i64 x.f2, .slice A3 x.f3.length c3, .slice A4 x.f4.length c4] 30) (.cells #[.int .i64 0, .string ⟨#[]⟩, .int .i64 0, .slice none 0 0, .slice none 0 0] 30) w1.heap.size x.f0 x.f1 x.f2 x.f3 x.f4 (.slice J3 x.f3.length q3) (.slice J4 x.f4.length q4) inner fp wc))
  case first =>
    rcases HP1.out with ⟨he, ep⟩ | ⟨he, ep, v, hv, h2⟩
    · have t1 : decide ((x.f4.length : Int) > 0) = false := decide_eq_false (by rw [he]; simp)
      have t1' : decide (0 < x.f4.length) = false := decide_eq_false (by rw [he]; simp)
      have HEP := Lib.hid ep
      clear he ep
      go_wp2_with fail
      go_meet
      case rel => exact ⟨inner, fp, rfl, ⟨by rw [HEP.out]; exact HDP.out⟩⟩
    · have t1 : decide ((x.f4.length : Int) > 0) = true := decide_eq_true (by have := List.length_pos_iff.2 he; omega)
      have t1' : decide (0 < x.f4.length) = true := decide_eq_true (List.length_pos_iff.2 he)
      have t2 : decide (v > 0) = false := decide_eq_false (by omega)
      have t2' : decide (0 < v) = false := decide_eq_false (by omega)
      obtain ⟨ka, hka⟩ := h2.rounds
      have HKA := Lib.hid hka
      have HEP := Lib.hid ep
      clear he ep hv h2 hka
      go_wp2_with fail
      refine (Q.spec_l15Rd_pick.calls ka g s _ 2 v _ w0 _ HDP.out.dr.is HDP.out.dr.b HKA.out).mono ?_
      rintro e w2 ⟨rfl, hi, hb, hk⟩
      have hw2 := Lib.hid (HDP.out.call hi hb hk)
      clear hi hb hk
      go_wp2_with fail
      go_meet
      case rel => exact ⟨inner, fp, rfl, ⟨by rw [HEP.out]; exact hw2.out⟩⟩
  case rest =>
    clear HDP inner fp
    obtain ⟨inner, fp, rfl, HDP⟩ := hcut
    go_wp2_with fail
    refine (Q.spec_l15Rd_pick.calls kc g s _ 14 c _ w0 _ HDP.out.dr.is HDP.out.dr.b HKC.out).mono ?_
    rintro e w3 ⟨rfl, hi, hb, hk⟩
    have hw3 := Lib.hid (HDP.out.call hi hb hk)
    clear hi hb hk
    by_cases c0 : c = 0
    · subst c0
      obtain ⟨n, hn, rfl, rfl⟩ := H0.out rfl
      obtain ⟨kn, hkn⟩ := hn.rounds
      have HKN := Lib.hid hkn
      clear hn hkn
      go_wp2_with fail
      have hblk := blk_new w3 (.cells #[.int .i64 0, .int .i64 4, .int .i64 1, .int .i64 3] 3 (0, 0))
      have HRB := Lib.hid (reads_block (l := [0, 4, 1, 3]) hblk (by simp) rfl)
      have HNE := Lib.hid (show w3.heap.size ≠ g from by have := hw3.out.dr.lt; have := hw3.out.lts; omega)
      clear hblk
      refine (Q.spec_l15Rd_num.calls kn g s _ (some ⟨w3.heap.size, 0, none⟩) _ [0, 4, 1, 3] n _ w0 _ (hw3.out.dr.later (below_new _ _)).is (hw3.out.dr.later (below_new _ _)).b HRB.out (Nat.le_refl _) (fun ad e _ => by cases e; exact HNE.out) HKN.out).mono ?_
      rintro e w4 ⟨rfl, hi, hb, hk⟩
      have hw4 := Lib.hid ((hw3.out.later (below_new _ _)).call hi hb hk)
      have HC7 := Lib.hid (hw4.out.put (j := 0) (u := .int .i64 n) (by simpa using blk_set hw4.out.k3 0 (.int .i64 n)))
      clear hi hb hk
      have hC := hw4.out
      obtain ⟨p0, p1_, p2, p3, p4⟩ := fm_cells hC.k3
      obtain ⟨o0, o1, o2, o3, o4⟩ := fm_free hC.k3
      obtain ⟨z0, z1, z2, z3, z4⟩ := fm_cells hC.k2
      obtain ⟨f0, f1, f2, f3, f4⟩ := fm_free hC.k2
      have hn1 : w1.heap.size ≠ w.heap.size + 1 := by have := hC.h3; omega
      have hn2 : w.heap.size + 1 ≠ w1.heap.size := fun e => hn1 e.symm
      clear hC
      obtain ⟨st1, st2, st3⟩ := st5 HC7.out.k2 (.int .i64 n) (.string x.f1) (.int .i64 x.f2) (.slice J3 x.f3.length q3) (.slice J4 x.f4.length q4)
      have HN := Lib.hid (HC7.out.newF st2)
      have HB := Lib.hid (HC7.out.dr.put5 (b := w.heap.size + 1) (by omega) (.int .i64 n) (.string x.f1) (.int .i64 x.f2) (.slice J3 x.f3.length q3) (.slice J4 x.f4.length q4))
      clear st1 st2 st3
      go_wp2_with fail
      refine bodyPost_ret (v := .agg #[.int .i64 n, .string x.f1, .int .i64 x.f2, .slice J3 x.f3.length q3, (.slice J4 x.f4.length q4)]) (by simp [results, Try.results80, go_sem, z0, z1, z2, z3, z4, hn1, hn2]) rfl ?_
      exact ⟨_, _, rfl, HN.out, HB.out.is, HB.out.b, HB.out.kp⟩
    by_cases c1 : c = 1
    · subst c1
      clear c0
      obtain ⟨n, hn, rfl, rfl⟩ := H1.out rfl
      obtain ⟨kn, hkn⟩ := hn.rounds
      have HKN := Lib.hid hkn
      clear hn hkn
      go_wp2_with fail
      have hblk := blk_new w3 (.cells #[.string ⟨#[]⟩, .string ⟨#[65]⟩, .string ⟨#[116, 111, 111, 108, 111, 110, 103, 97, 110, 97, 109, 101, 49]⟩, .string ⟨#[122]⟩, .string ⟨#[120, 32, 121]⟩] 9 (0, 0))
      have HRB := Lib.hid (reads_strs (l := badNms) hblk (by simp) rfl)
      have HNE := Lib.hid (show w3.heap.size ≠ g from by have := hw3.out.dr.lt; have := hw3.out.lts; omega)
      clear hblk
      refine (Q.spec_l15Rd_of.calls kn g s _ (some ⟨w3.heap.size, 0, none⟩) _ badNms n _ w0 _ (hw3.out.dr.later (below_new _ _)).is (hw3.out.dr.later (below_new _ _)).b HRB.out (Nat.le_refl _) (fun ad e _ => by cases e; exact HNE.out) HKN.out).mono ?_
      rintro e w4 ⟨rfl, hi, hb, hk⟩
      have hw4 := Lib.hid ((hw3.out.later (below_new _ _)).call hi hb hk)
      have HC7 := Lib.hid (hw4.out.put (j := 1) (u := .string n) (by simpa using blk_set hw4.out.k3 1 (.string n)))
      clear hi hb hk
      have hC := hw4.out
      obtain ⟨p0, p1_, p2, p3, p4⟩ := fm_cells hC.k3
      obtain ⟨o0, o1, o2, o3, o4⟩ := fm_free hC.k3
      obtain ⟨z0, z1, z2, z3, z4⟩ := fm_cells hC.k2
      obtain ⟨f0, f1, f2, f3, f4⟩ := fm_free hC.k2
      have hn1 : w1.heap.size ≠ w.heap.size + 1 := by have := hC.h3; omega
      have hn2 : w.heap.size + 1 ≠ w1.heap.size := fun e => hn1 e.symm
      clear hC
      obtain ⟨st1, st2, st3⟩ := st5 HC7.out.k2 (.int .i64 x.f0) (.string n) (.int .i64 x.f2) (.slice J3 x.f3.length q3) (.slice J4 x.f4.length q4)
      have HN := Lib.hid (HC7.out.newF st2)
      have HB := Lib.hid (HC7.out.dr.put5 (b := w.heap.size + 1) (by omega) (.int .i64 x.f0) (.string n) (.int .i64 x.f2) (.slice J3 x.f3.length q3) (.slice J4 x.f4.length q4))
      clear st1 st2 st3
      go_wp2_with fail
      refine bodyPost_ret (v := .agg #[.int .i64 x.f0, .string n, .int .i64 x.f2, .slice J3 x.f3.length q3, (.slice J4 x.f4.length q4)]) (by simp [results, Try.results80, go_sem, z0, z1, z2, z3, z4, hn1, hn2]) rfl ?_
      exact ⟨_, _, rfl, HN.out, HB.out.is, HB.out.b, HB.out.kp⟩
    by_cases c2 : c = 2
    · subst c2
      clear c0 c1
      obtain ⟨n, hn, rfl, rfl⟩ := H2.out rfl
      obtain ⟨kn, hkn⟩ := hn.rounds
      have HKN := Lib.hid hkn
      clear hn hkn
      go_wp2_with fail
      have hblk := blk_new w3 (.cells #[.int .i64 1000, .int .i64 (-1), .int .i64 5] 3 (0, 0))
      have HRB := Lib.hid (reads_block (l := [1000, -1, 5]) hblk (by simp) rfl)
      have HNE := Lib.hid (show w3.heap.size ≠ g from by have := hw3.out.dr.lt; have := hw3.out.lts; omega)
      clear hblk
      refine (Q.spec_l15Rd_num.calls kn g s _ (some ⟨w3.heap.size, 0, none⟩) _ [1000, -1, 5] n _ w0 _ (hw3.out.dr.later (below_new _ _)).is (hw3.out.dr.later (below_new _ _)).b HRB.out (Nat.le_refl _) (fun ad e _ => by cases e; exact HNE.out) HKN.out).mono ?_
      rintro e w4 ⟨rfl, hi, hb, hk⟩
      have hw4 := Lib.hid ((hw3.out.later (below_new _ _)).call hi hb hk)
      have HC7 := Lib.hid (hw4.out.put (j := 2) (u := .int .i64 n) (by simpa using blk_set hw4.out.k3 2 (.int .i64 n)))
      clear hi hb hk
      have hC := hw4.out
      obtain ⟨p0, p1_, p2, p3, p4⟩ := fm_cells hC.k3
      obtain ⟨o0, o1, o2, o3, o4⟩ := fm_free hC.k3
      obtain ⟨z0, z1, z2, z3, z4⟩ := fm_cells hC.k2
      obtain ⟨f0, f1, f2, f3, f4⟩ := fm_free hC.k2
      have hn1 : w1.heap.size ≠ w.heap.size + 1 := by have := hC.h3; omega
      have hn2 : w.heap.size + 1 ≠ w1.heap.size := fun e => hn1 e.symm
      clear hC
      obtain ⟨st1, st2, st3⟩ := st5 HC7.out.k2 (.int .i64 x.f0) (.string x.f1) (.int .i64 n) (.slice J3 x.f3.length q3) (.slice J4 x.f4.length q4)
      have HN := Lib.hid (HC7.out.newF st2)
      have HB := Lib.hid (HC7.out.dr.put5 (b := w.heap.size + 1) (by omega) (.int .i64 x.f0) (.string x.f1) (.int .i64 n) (.slice J3 x.f3.length q3) (.slice J4 x.f4.length q4))
      clear st1 st2 st3
      go_wp2_with fail
      refine bodyPost_ret (v := .agg #[.int .i64 x.f0, .string x.f1, .int .i64 n, .slice J3 x.f3.length q3, (.slice J4 x.f4.length q4)]) (by simp [results, Try.results80, go_sem, z0, z1, z2, z3, z4, hn1, hn2]) rfl ?_
      exact ⟨_, _, rfl, HN.out, HB.out.is, HB.out.b, HB.out.kp⟩
    by_cases c3_ : c = 3
    · subst c3_
      clear c0 c1 c2
      obtain ⟨n, hn, rfl, rfl⟩ := HS3.out rfl
      obtain ⟨kn, hkn⟩ := hn.rounds
      have HKN := Lib.hid hkn
      clear hn hkn
      have hp3 := (fm_cells hw3.out.k3).2.2.2.1
      go_wp2_with fail
      have HD := Lib.hid (hw3.out.later (below_drew (Below.refl _ _)))
      refine start_ (n := 9) (S := (fun W : World => W.cell? ⟨w1.heap.size, 3, none⟩ = some (.slice J3 x.f3.length q3))) (ds := [8]) #[false, false, false, false, false, false, false, false, false] (by kernel_rfl) rfl rfl (fm_cells HD.out.k3).2.2.2.1 (fun hHeld => ?_)
      clear hp3
      generalize w3.drew = wd at HD hHeld ⊢
      refine pure_ (i := 0) (N := some 57) (v := ?_) (a' := ?_) #[true, false, false, false, false, false, false, false, false] rfl rfl (by kernel_rfl) (fun _ _ _ h => h) (Or.inl ⟨by rfl, ?_⟩) ?_ ?_
      rotate_left
      · intro w'
        go_simp
        with_reducible rfl
      rotate_left
      · simp only [Act.put, List.setIfInBounds_toArray, List.set_cons_zero, List.set_cons_succ, i64_w, i32_w]
        rfl
      refine pure_ (i := 2) (N := some 59) (v := ?_) (a' := ?_) #[true, false, true, false, false, false, false, false, false] rfl rfl (by kernel_rfl) (fun _ _ _ h => h) (Or.inl ⟨by rfl, ?_⟩) ?_ ?_
      rotate_left
      · intro w'
        go_simp
        with_reducible rfl
      rotate_left
      · simp only [Act.put, List.setIfInBounds_toArray, List.set_cons_zero, List.set_cons_succ, i64_w, i32_w]
        rfl
      refine take_ (i := 1) (N := some 58) (v := ?_) (a' := ?_) #[true, true, true, false, false, false, false, false, false] rfl rfl (by kernel_rfl) (fun _ _ _ h => h) (Or.inl ⟨by rfl, ?_⟩) hHeld ?_ ?_
      rotate_left
      · rintro w' s0
        go_simp
        with_reducible rfl
      rotate_left
      · simp only [Act.put, List.setIfInBounds_toArray, List.set_cons_zero, List.set_cons_succ, i64_w, i32_w]
        rfl
      refine one_ (i := 3) (N := some 60) #[true, true, true, true, false, false, false, false, false] rfl rfl (by kernel_rfl) (by decide) (fun K hK => ?_)
      refine value_ (w1 := ?_) (v := ?_) (by rfl) rfl ?_ ?_
      rotate_left 2
      · go_simp
        constructor
        · rfl
        · rfl
      refine hK.out _ _ (fm_cells (HD.out.later (below_new _ _)).k3).2.2.2.1 (fun hHeld => ?_)
      clear hK K
      refine norm_ (a' := ?_) ?_ ?_
      rotate_left
      · show Act.put _ (some 60) _ = _
        simp only [Act.put, List.setIfInBounds_toArray, List.set_cons_zero, List.set_cons_succ, i64_w, i32_w]
        rfl
      have hblk := blk_new wd (.cells #[.int .i64 0, .int .i64 100, .int .i64 1, .int .i64 50] 3 (0, 0))
      have HRB := Lib.hid (reads_block (l := [0, 100, 1, 50]) hblk (by simp) rfl)
      have HNE := Lib.hid (show wd.heap.size ≠ g from by have := HD.out.dr.lt; have := HD.out.lts; omega)
      clear hblk
      refine one_ (i := 4) (N := some 61) #[true, true, true, true, true, false, false, false, false] rfl rfl (by kernel_rfl) (by decide) (fun K hK => ?_)
      refine goes_ Try.func56 (by kernel_rfl) rfl #[.pointer (some ⟨g, 0, none⟩), .slice (some ⟨wd.heap.size, 0, none⟩) 4 4] (by rfl) rfl rfl (by (try simp only [List.map_toArray, List.map_cons, List.map_nil]); first | done | rfl) ?_
      refine (Q.spec_l15Rd_num.calls kn g s _ (some ⟨wd.heap.size, 0, none⟩) _ [0, 100, 1, 50] n _ w0 _ (HD.out.dr.later (below_new _ _)).is (HD.out.dr.later (below_new _ _)).b HRB.out (Nat.le_refl _) (fun ad e _ => by cases e; exact HNE.out) HKN.out).mono ?_
      rintro e w4 ⟨rfl, hi, hb, hk⟩
      refine ⟨_, rfl, ?_⟩
      have hw4 := Lib.hid ((HD.out.later (below_new _ _)).call hi hb hk)
      clear hi hb hk
      refine hK.out _ _ (fm_cells hw4.out.k3).2.2.2.1 (fun hHeld => ?_)
      clear hK K
      refine norm_ (a' := ?_) ?_ ?_
      rotate_left
      · show Act.put _ (some 61) _ = _
        simp only [Act.put, List.setIfInBounds_toArray, List.set_cons_zero, List.set_cons_succ, i64_w, i32_w]
        rfl
      refine one_ (i := 5) (N := some 62) #[true, true, true, true, true, true, false, false, false] rfl rfl (by kernel_rfl) (by decide) (fun K hK => ?_)
      refine value_ (w1 := ?_) (v := ?_) (by rfl) rfl ?_ ?_
      rotate_left 2
      · go_simp
        constructor
        · rfl
        · rfl
      refine hK.out _ _ (fm_cells (hw4.out.later (below_new _ _)).k3).2.2.2.1 (fun hHeld => ?_)
      clear hK K
      refine norm_ (a' := ?_) ?_ ?_
      rotate_left
      · show Act.put _ (some 62) _ = _
        simp only [Act.put, List.setIfInBounds_toArray, List.set_cons_zero, List.set_cons_succ, i64_w, i32_w]
        rfl
      refine one_ (i := 6) (N := some 63) #[true, true, true, true, true, true, true, false, false] rfl rfl (by kernel_rfl) (by decide) (fun K hK => ?_)
      refine step_append_cells (w0 := w0) (W := w4) w0.heap.size (by rfl) (.tmp 58) (.tmp 62) 27 3 (.int .i64 0) 1 8 rfl Try.underlying27 infoI rfl (by decide) (by omega) (.slice J3 x.f3.length q3) x.f3.length (encI x.f3) [.int .i64 n] rfl rfl rfl (by simp [Value.oneCell']) (own_base_ hw4.out.o3 (fun b hb => by have := (hw4.out.own3 b hb).1; have := keep_size hw4.out.dr.kp; have := HD0.out.b.size; omega)) hw4.out.dr.b hw4.out.dr.b.size (by have := HL3.out; omega) ?_
      intro v' w8 ho hb8 hg8 hat8
      have ho8 : w8.ownsRow 0 3 1 v' (x.f3 ++ [n]).length (encI (x.f3 ++ [n])) := by
        rw [List.length_append, show encI (x.f3 ++ [n]) = encI x.f3 ++ [.int .i64 n] from by simp [encs]]
        exact own_weaken ho (Nat.zero_le _)
      have hdp8 := hw4.out.scopes hg8 (hw4.out.own3) ho8 (fun b hb => by
        rcases hat8 with h | ⟨c, h, hc⟩
        · exact hw4.out.own3 b (h ▸ hb)
        · rw [h] at hb; cases hb; exact hw4.out.fresh hc)
      have hk38 := (hg8.block _ hw4.out.lts.2 (fun e => (hw4.out.own3 _ e.symm).2.1 rfl)).trans hw4.out.k3
      have hv' : ∃ A c, v' = .slice A (x.f3.length + 1) c := by
        rcases ho with ⟨_, ⟨rfl, h0⟩ | ⟨g, cap, cur, rfl, _⟩⟩
        · exact absurd h0 (by omega)
        · exact ⟨_, _, rfl⟩
      obtain ⟨A', c', rfl⟩ := hv'
      have HC7 := Lib.hid hdp8
      have HK38 := Lib.hid hk38
      clear ho hb8 hg8 hat8 ho8 hdp8 hk38
      refine hK.out _ _ (fm_cells HK38.out).2.2.2.1 (fun hHeld => ?_)
      clear hK K
      refine norm_ (a' := ?_) ?_ ?_
      rotate_left
      · show Act.put _ (some 63) _ = _
        simp only [Act.put, List.setIfInBounds_toArray, List.set_cons_zero, List.set_cons_succ, i64_w, i32_w]
        rfl
      refine pure_ (i := 7) (N := some 64) (v := ?_) (a' := ?_) #[true, true, true, true, true, true, true, true, false] rfl rfl (by kernel_rfl) (fun _ _ _ h => h) (Or.inl ⟨by rfl, ?_⟩) ?_ ?_
      rotate_left
      · intro w'
        go_simp
        with_reducible rfl
      rotate_left
      · simp only [Act.put, List.setIfInBounds_toArray, List.set_cons_zero, List.set_cons_succ, i64_w, i32_w]
        rfl
      refine last_ (i := 8) (N := none) #[true, true, true, true, true, true, true, true, true] rfl rfl (by kernel_rfl) (by decide) (fun K hK => ?_)
      have z3 := (fm_cells HK38.out).2.2.2.1
      have f3 := (fm_free HK38.out).2.2.2.1
      refine skip_ (w1 := ?_) (by rfl) rfl ?_ ?_
      rotate_left
      · go_simp
        rfl
      refine hK.out _ _ ?_
      clear hK K
      clear z3 f3
      refine done_ (by kernel_rfl) ?_
      have hl9 : (x.f3 ++ [n]).length = x.f3.length + 1 := by simp
      have hC := HC7.out
      obtain ⟨p0, p1_, p2, p3, p4⟩ := fm_cells hC.k3
      obtain ⟨o0, o1, o2, o3, o4⟩ := fm_free hC.k3
      obtain ⟨z0, z1, z2, z3, z4⟩ := fm_cells hC.k2
      obtain ⟨f0, f1, f2, f3, f4⟩ := fm_free hC.k2
      have hn1 : w1.heap.size ≠ w.heap.size + 1 := by have := hC.h3; omega
      have hn2 : w.heap.size + 1 ≠ w1.heap.size := fun e => hn1 e.symm
      clear hC
      obtain ⟨st1, st2, st3⟩ := st5 HC7.out.k2 (.int .i64 x.f0) (.string x.f1) (.int .i64 x.f2) (.slice A' (x.f3.length + 1) c') (.slice J4 x.f4.length q4)
      have HN := Lib.hid (HC7.out.newF st2)
      have HB := Lib.hid (HC7.out.dr.put5 (b := w.heap.size + 1) (by omega) (.int .i64 x.f0) (.string x.f1) (.int .i64 x.f2) (.slice A' (x.f3.length + 1) c') (.slice J4 x.f4.length q4))
      clear st1 st2 st3
      have HL9 := Lib.hid hl9
      clear hl9
      go_wp2_with fail
      refine bodyPost_ret (v := .agg #[.int .i64 x.f0, .string x.f1, .int .i64 x.f2, .slice A' (x.f3.length + 1) c', .slice J4 x.f4.length q4]) (by simp [results, Try.results80, go_sem, z0, z1, z2, z3, z4]) rfl ?_
      exact ⟨_, _, rfl, HN.out, HB.out.is, HB.out.b, HB.out.kp⟩
    · obtain ⟨rfl, rfl⟩ := H4.out c0 c1 c2 c3_
      have e0 : (c == 0) = false := beq_eq_false_iff_ne.mpr c0
      have e1 : (c == 1) = false := beq_eq_false_iff_ne.mpr c1
      have e2 : (c == 2) = false := beq_eq_false_iff_ne.mpr c2
      have e3 : (c == 3) = false := beq_eq_false_iff_ne.mpr c3_
      clear c0 c1 c2 c3_
      have hC := hw3.out
      obtain ⟨p0, p1_, p2, p3, p4⟩ := fm_cells hC.k3
      obtain ⟨o0, o1, o2, o3, o4⟩ := fm_free hC.k3
      obtain ⟨z0, z1, z2, z3, z4⟩ := fm_cells hC.k2
      obtain ⟨f0, f1, f2, f3, f4⟩ := fm_free hC.k2
      have hn1 : w1.heap.size ≠ w.heap.size + 1 := by have := hC.h3; omega
      have hn2 : w.heap.size + 1 ≠ w1.heap.size := fun e => hn1 e.symm
      clear hC
      obtain ⟨st1, st2, st3⟩ := st5 hw3.out.k2 (.int .i64 x.f0) (.string x.f1) (.int .i64 x.f2) (.slice J3 x.f3.length q3) (.slice J4 x.f4.length q4)
      have HN := Lib.hid (hw3.out.newF st2)
      have HB := Lib.hid (hw3.out.dr.put5 (b := w.heap.size + 1) (by omega) (.int .i64 x.f0) (.string x.f1) (.int .i64 x.f2) (.slice J3 x.f3.length q3) (.slice J4 x.f4.length q4))
      clear st1 st2 st3
      go_wp2_with fail
      refine bodyPost_ret (v := .agg #[.int .i64 x.f0, .string x.f1, .int .i64 x.f2, .slice J3 x.f3.length q3, (.slice J4 x.f4.length q4)]) (by simp [results, Try.results80, go_sem, z0, z1, z2, z3, z4]) rfl ?_
      exact ⟨_, _, rfl, HN.out, HB.out.is, HB.out.b, HB.out.kp⟩
end Go.Proofs.Ytcbomlmlindjdaa
end
section
namespace Go.Proofs.Ytcbomlmlindjdaa
set_option linter.unusedVariables false
def Bn : Nat → Nat
  | 0 => 13
  | d + 1 => 13 + 3 * (Bn d + 1)
theorem set_totL (l : List Fm) (i : Nat) (h : i < l.length) (y : Fm) : totL (l.set i y) + l[i].tot = totL l + y.tot := by
  induction l generalizing i with
  | nil => simp at h
  | cons a l ih =>
    cases i with
    | zero => simp [totL]; omega
    | succ i =>
      have := ih i (by simpa using h)
      simp only [List.set_cons_succ, totL, List.getElem_cons_succ]
      omega
theorem set_sizes (l : List Fm) (i : Nat) (h : i < l.length) (y : Fm) : sizes (l.set i y) + l[i].size = sizes l + y.size := by
  induction l generalizing i with
  | nil => simp at h
  | cons a l ih =>
    cases i with
    | zero => simp [sizes]; omega
    | succ i =>
      have := ih i (by simpa using h)
      simp only [List.set_cons_succ, sizes, List.getElem_cons_succ]
      omega
abbrev nms : List ByteArray := [(⟨#[97]⟩ : ByteArray), (⟨#[98]⟩ : ByteArray), (⟨#[120]⟩ : ByteArray), (⟨#[121]⟩ : ByteArray), (⟨#[102]⟩ : ByteArray), (⟨#[105, 102]⟩ : ByteArray), (⟨#[108, 101, 116]⟩ : ByteArray), (⟨#[43]⟩ : ByteArray)]
end Go.Proofs.Ytcbomlmlindjdaa
end
