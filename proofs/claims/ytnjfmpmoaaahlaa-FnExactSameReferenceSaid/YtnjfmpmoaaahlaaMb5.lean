/- Words for the laws' proofs (part 5): contracts of functions, and plain lemmas. -/
import Derived.Deep.RegionHeld3
import Derived.Test.YtnjfmpmoaaahlaaMb1
import Derived.Test.YtnjfmpmoaaahlaaMb2
import Derived.Test.YtnjfmpmoaaahlaaMb3
import Derived.Test.YtnjfmpmoaaahlaaMb4
section
namespace Go.Proofs.Ytnjfmpmoaaahlaa.Q
open Go.RowKit Go.Proofs.YtnjfmpmoaaahlaaW.PrintWords Go.Proofs.YtnjfmpmoaaahlaaW.PrintLast Go.Proofs.YtnjfmpmoaaahlaaW.PrintMore
attribute [local go_sem] max2_int min2_int max_two min_two max_three min_three max_four min_four   -- for this text's walks alone
set_option linter.unusedVariables false
set_option linter.unusedSimpArgs false

/-! ### laws_szIntS: function 16 -/
def laws_szIntS.f (l0 : List Int) (a1 : Int) : Option (Int) := if (wrap64 (a1 - (l0.length : Int))) < 0 then (some (-1)) else (some (wrap64 (a1 - (l0.length : Int))))
set_option maxHeartbeats 8000000 in
set_option maxRecDepth 100000 in
theorem laws_szIntS.calls (A0 : Option Addr) (c0 : Nat) (l0 : List Int) (a1 : Int) (r : Int) (w : World) (hr0 : Kd.C (Kd.int .i64) w A0 l0.length l0) (hc0 : l0.length ≤ c0) (h : laws_szIntS.f l0 a1 = some r) :
    Calls Try.prog 16 #[.slice A0 l0.length c0, .int .i64 a1] w fun e w' => e = .returned (.int .i64 r) ∧ Drawn0 w w' := by
  have HR0 := Aside0.mk hr0
  have HC0 := Aside0.mk hc0
  clear hr0 hc0
  have H : (if (wrap64 (a1 - (l0.length : Int))) < 0 then (some (-1)) else (some (wrap64 (a1 - (l0.length : Int))))) = some r := h
  clear h
  by_cases c3 : (wrap64 (a1 - (l0.length : Int))) < 0
  · rw [if_pos c3] at H
    have c3b0 : decide ((wrap64 (a1 - (l0.length : Int))) < 0) = true := decide_eq_true c3
    clear c3
    obtain rfl := Option.some.inj H
    go_enter Try.func16, Try.ntmps16
    go_wp2
    go_ret
    exact ⟨by first | rfl | (simp; done) | (simp [*]; done), by repeat (first | exact Drawn0.refl _ | apply Drawn0.step)⟩
  · rw [if_neg c3] at H
    have c3b0 : decide ((wrap64 (a1 - (l0.length : Int))) < 0) = false := decide_eq_false c3
    clear c3
    obtain rfl := Option.some.inj H
    go_enter Try.func16, Try.ntmps16
    go_wp2
    go_ret
    exact ⟨by first | rfl | (simp; done) | (simp [*]; done), by repeat (first | exact Drawn0.refl _ | apply Drawn0.step)⟩

/-! ### laws_szBind: function 15 -/
def laws_szBind.f (a0_0 : ByteArray) (l0_1 : List Int) (a0_2 : Int) (a1 : Int) : Option (Int) := if (wrap64 (a1 - (a0_0.size : Int))) < 0 then (some (-1)) else ((laws_szIntS.f l0_1 (wrap64 (a1 - (a0_0.size : Int)))).bind fun t102 => (if t102 < 0 then (some (-1)) else (some t102)))
set_option maxHeartbeats 8000000 in
set_option maxRecDepth 100000 in
theorem laws_szBind.calls (a0_0 : ByteArray) (A0_1 : Option Addr) (c0_1 : Nat) (l0_1 : List Int) (a0_2 : Int) (a1 : Int) (r : Int) (w : World) (hr0_1 : Kd.C (Kd.int .i64) w A0_1 l0_1.length l0_1) (hc0_1 : l0_1.length ≤ c0_1) (h : laws_szBind.f a0_0 l0_1 a0_2 a1 = some r) :
    Calls Try.prog 15 #[.agg #[.string a0_0, .slice A0_1 l0_1.length c0_1, .int .i64 a0_2], .int .i64 a1] w fun e w' => e = .returned (.int .i64 r) ∧ Below w.heap.size w w' := by
  have hu44 := Try.underlying44
  have HR0_1 := Aside0.mk hr0_1
  have HC0_1 := Aside0.mk hc0_1
  clear hr0_1 hc0_1
  have HB := Aside0.mk (Below.refl w.heap.size w)
  have H : (if (wrap64 (a1 - (a0_0.size : Int))) < 0 then (some (-1)) else ((laws_szIntS.f l0_1 (wrap64 (a1 - (a0_0.size : Int)))).bind fun t102 => (if t102 < 0 then (some (-1)) else (some t102)))) = some r := h
  clear h
  by_cases c3 : (wrap64 (a1 - (a0_0.size : Int))) < 0
  · rw [if_pos c3] at H
    have c3b0 : decide ((wrap64 (a1 - (a0_0.size : Int))) < 0) = true := decide_eq_true c3
    clear c3
    obtain rfl := Option.some.inj H
    go_enter Try.func15, Try.ntmps15
    go_wp2_with (first | ((with_reducible refine gate_dst (N := 2) rfl ?_); refine box_event ?hg (N := 2) ?hd (cs := #[.string a0_0, .slice A0_1 l0_1.length c0_1, .int .i64 a0_2]) (t := 44) ?hr ?_; (case hd => rfl); (case hg => rfl); (case hr => first | (go_simp; done) | (go_simp; rfl)); intro gb101 hg w4 hbox hb; have n0_ := Aside0.mk (below_step (by repeat (first | (with_reducible first | exact HB.out | apply below_alloc | apply pw_below_drewN | apply below_drew1) | exact HB.out)) hb); have n1_ := Aside0.mk (hbox); have n2_ := Aside0.mk ((by rw [hg]; exact (below_size (by repeat (first | (with_reducible first | exact HB.out | apply below_alloc | apply pw_below_drewN | apply below_drew1) | exact HB.out))) : w.heap.size ≤ gb101)); have n3_ := Aside0.mk ((by rw [hg]; exact (below_size (by repeat (first | (with_reducible first | exact HB.out | apply below_alloc | apply pw_below_drewN | apply below_drew1) | exact HB.out))) : w.heap.size ≤ gb101)); clear HB; have HB := n0_; have BK101 := n1_; have GW101 := n2_; have GE101 := n3_; clear n0_ n1_ n2_ n3_; clear hb hbox hg; have hcz5_0 : w4.cell? ⟨gb101, 0, none⟩ = some (.string a0_0) := (blk_cell BK101.out 0).trans rfl; have hcz5_1 : w4.cell? ⟨gb101, 1, none⟩ = some (.slice A0_1 l0_1.length c0_1) := (blk_cell BK101.out 1).trans rfl; have hcz5_2 : w4.cell? ⟨gb101, 2, none⟩ = some (.int .i64 a0_2) := (blk_cell BK101.out 2).trans rfl; have hfz5_0 := blk_frozen BK101.out 0; have hfz5_1 := blk_frozen BK101.out 1; have hfz5_2 := blk_frozen BK101.out 2))
    go_ret
    exact ⟨by first | rfl | (simp [errW_none, errW_some] <;> rfl) | (simp [*, errW_none, errW_some] <;> rfl), by repeat (first | (with_reducible first | exact HB.out | apply below_alloc | apply pw_below_drewN | apply below_drew1 | refine below_set ?_ GE101.out) | exact HB.out)⟩
  · rw [if_neg c3] at H
    have c3b0 : decide ((wrap64 (a1 - (a0_0.size : Int))) < 0) = false := decide_eq_false c3
    clear c3
    replace H := Option.bind_eq_some_iff.mp H
    obtain ⟨t102, A60, H⟩ := H
    replace H : (if t102 < 0 then (some (-1)) else (some t102)) = some r := H
    have A6 := Aside0.mk A60
    clear A60
    by_cases c7 : t102 < 0
    · rw [if_pos c7] at H
      have c7b0 : decide (t102 < 0) = true := decide_eq_true c7
      clear c7
      obtain rfl := Option.some.inj H
      go_enter Try.func15, Try.ntmps15
      go_wp2_with (first | ((with_reducible refine gate_dst (N := 2) rfl ?_); refine box_event ?hg (N := 2) ?hd (cs := #[.string a0_0, .slice A0_1 l0_1.length c0_1, .int .i64 a0_2]) (t := 44) ?hr ?_; (case hd => rfl); (case hg => rfl); (case hr => first | (go_simp; done) | (go_simp; rfl)); intro gb101 hg w8 hbox hb; have n0_ := Aside0.mk (below_step (by repeat (first | (with_reducible first | exact HB.out | apply below_alloc | apply pw_below_drewN | apply below_drew1) | exact HB.out)) hb); have n1_ := Aside0.mk (hbox); have n2_ := Aside0.mk ((by rw [hg]; exact (below_size (by repeat (first | (with_reducible first | exact HB.out | apply below_alloc | apply pw_below_drewN | apply below_drew1) | exact HB.out))) : w.heap.size ≤ gb101)); have n3_ := Aside0.mk ((by rw [hg]; exact (below_size (by repeat (first | (with_reducible first | exact HB.out | apply below_alloc | apply pw_below_drewN | apply below_drew1) | exact HB.out))) : w.heap.size ≤ gb101)); clear HB; have HB := n0_; have BK101 := n1_; have GW101 := n2_; have GE101 := n3_; clear n0_ n1_ n2_ n3_; clear hb hbox hg; have hcz9_0 : w8.cell? ⟨gb101, 0, none⟩ = some (.string a0_0) := (blk_cell BK101.out 0).trans rfl; have hcz9_1 : w8.cell? ⟨gb101, 1, none⟩ = some (.slice A0_1 l0_1.length c0_1) := (blk_cell BK101.out 1).trans rfl; have hcz9_2 : w8.cell? ⟨gb101, 2, none⟩ = some (.int .i64 a0_2) := (blk_cell BK101.out 2).trans rfl; have hfz9_0 := blk_frozen BK101.out 0; have hfz9_1 := blk_frozen BK101.out 1; have hfz9_2 := blk_frozen BK101.out 2) | ((with_reducible refine gate_callee (f := 16) rfl ?_); refine goesL_ (some 15) rfl rfl Try.func16 (by kernel_rfl) rfl #[.slice A0_1 l0_1.length c0_1, .int .i64 (wrap64 (a1 - (a0_0.size : Int)))] rfl (by (try simp only [List.map_toArray, List.map_cons, List.map_nil]); first | done | rfl | (simp only [List.length_drop, List.length_take]; rfl)) ?_; (with_reducible refine (laws_szIntS.calls _ _ l0_1 (wrap64 (a1 - (a0_0.size : Int))) t102 _ ?side1 ?side2 A6.out).mono ?_); (case side1 => repeat (first | exact (Kd.C_below HR0_1.out HB.out) | (with_reducible refine Kd.C_alloc ?_ _) | (with_reducible refine Kd.C_drewN ?_ _) | (with_reducible refine Kd.C_drew ?_))); (case side2 => exact HC0_1.out); rintro e w' ⟨rfl, ⟨nd, rfl⟩⟩; refine ⟨_, rfl, ?_⟩))
      go_ret
      exact ⟨by first | rfl | (simp [errW_none, errW_some] <;> rfl) | (simp [*, errW_none, errW_some] <;> rfl), by repeat (first | (with_reducible first | exact HB.out | apply below_alloc | apply pw_below_drewN | apply below_drew1 | refine below_set ?_ GE101.out) | exact HB.out)⟩
    · rw [if_neg c7] at H
      have c7b0 : decide (t102 < 0) = false := decide_eq_false c7
      clear c7
      obtain rfl := Option.some.inj H
      go_enter Try.func15, Try.ntmps15
      go_wp2_with (first | ((with_reducible refine gate_dst (N := 2) rfl ?_); refine box_event ?hg (N := 2) ?hd (cs := #[.string a0_0, .slice A0_1 l0_1.length c0_1, .int .i64 a0_2]) (t := 44) ?hr ?_; (case hd => rfl); (case hg => rfl); (case hr => first | (go_simp; done) | (go_simp; rfl)); intro gb101 hg w10 hbox hb; have n0_ := Aside0.mk (below_step (by repeat (first | (with_reducible first | exact HB.out | apply below_alloc | apply pw_below_drewN | apply below_drew1) | exact HB.out)) hb); have n1_ := Aside0.mk (hbox); have n2_ := Aside0.mk ((by rw [hg]; exact (below_size (by repeat (first | (with_reducible first | exact HB.out | apply below_alloc | apply pw_below_drewN | apply below_drew1) | exact HB.out))) : w.heap.size ≤ gb101)); have n3_ := Aside0.mk ((by rw [hg]; exact (below_size (by repeat (first | (with_reducible first | exact HB.out | apply below_alloc | apply pw_below_drewN | apply below_drew1) | exact HB.out))) : w.heap.size ≤ gb101)); clear HB; have HB := n0_; have BK101 := n1_; have GW101 := n2_; have GE101 := n3_; clear n0_ n1_ n2_ n3_; clear hb hbox hg; have hcz11_0 : w10.cell? ⟨gb101, 0, none⟩ = some (.string a0_0) := (blk_cell BK101.out 0).trans rfl; have hcz11_1 : w10.cell? ⟨gb101, 1, none⟩ = some (.slice A0_1 l0_1.length c0_1) := (blk_cell BK101.out 1).trans rfl; have hcz11_2 : w10.cell? ⟨gb101, 2, none⟩ = some (.int .i64 a0_2) := (blk_cell BK101.out 2).trans rfl; have hfz11_0 := blk_frozen BK101.out 0; have hfz11_1 := blk_frozen BK101.out 1; have hfz11_2 := blk_frozen BK101.out 2) | ((with_reducible refine gate_callee (f := 16) rfl ?_); refine goesL_ (some 15) rfl rfl Try.func16 (by kernel_rfl) rfl #[.slice A0_1 l0_1.length c0_1, .int .i64 (wrap64 (a1 - (a0_0.size : Int)))] rfl (by (try simp only [List.map_toArray, List.map_cons, List.map_nil]); first | done | rfl | (simp only [List.length_drop, List.length_take]; rfl)) ?_; (with_reducible refine (laws_szIntS.calls _ _ l0_1 (wrap64 (a1 - (a0_0.size : Int))) t102 _ ?side1 ?side2 A6.out).mono ?_); (case side1 => repeat (first | exact (Kd.C_below HR0_1.out HB.out) | (with_reducible refine Kd.C_alloc ?_ _) | (with_reducible refine Kd.C_drewN ?_ _) | (with_reducible refine Kd.C_drew ?_))); (case side2 => exact HC0_1.out); rintro e w' ⟨rfl, ⟨nd, rfl⟩⟩; refine ⟨_, rfl, ?_⟩))
      go_ret
      exact ⟨by first | rfl | (simp [errW_none, errW_some] <;> rfl) | (simp [*, errW_none, errW_some] <;> rfl), by repeat (first | (with_reducible first | exact HB.out | apply below_alloc | apply pw_below_drewN | apply below_drew1 | refine below_set ?_ GE101.out) | exact HB.out)⟩

/-! ### laws_szBindS: function 5 -/
def laws_szBindS.l0 : Nat → List (S44) → Int → Int → Option (Int)
  | 0, _, _, _ => none
  | k + 1, x0, x1, x5 => if x5 < (x0.length : Int) then (if 0 ≤ x5 then ((laws_szBind.f ((rd_T44 x0 x5).f0) ((rd_T44 x0 x5).f1) ((rd_T44 x0 x5).f2) x1).bind fun t104 => (if t104 < 0 then (some (-1)) else (laws_szBindS.l0 k x0 t104 (wrap64 (x5 + 1))))) else (none)) else (some x1)
def laws_szBindS.f (k : Nat) (l0 : List (S44)) (a1 : Int) : Option (Int) := if (wrap64 (a1 - (l0.length : Int))) < 0 then (some (-1)) else (laws_szBindS.l0 k l0 (wrap64 (a1 - (l0.length : Int))) 0)
theorem laws_szBindS.mono_l : ∀ k, (∀ y0 y1 y2, LeO (laws_szBindS.l0 k y0 y1 y2) (laws_szBindS.l0 (k + 1) y0 y1 y2))
  | 0 => fun _ _ _ r h => by simp [laws_szBindS.l0] at h
  | k + 1 => by
    have ih0 := laws_szBindS.mono_l k
    · intro y0 y1 y2
      unfold laws_szBindS.l0
      repeat' first
      | (with_reducible exact ih0 _ _ _)
      | (with_reducible exact LeO.refl _)
      | (with_reducible exact LeO.none _)
      | (with_reducible refine LeO.ite ?_ ?_)
      | (with_reducible refine LeO.bind ?_ (fun _ => ?_))
      | exact ih0 _ _ _
      | exact LeO.none _
      | refine LeO.ite ?_ ?_
      | refine LeO.bind ?_ (fun _ => ?_)
theorem laws_szBindS.mono : ∀ a0 a1 k, LeO (laws_szBindS.f k a0 a1) (laws_szBindS.f (k + 1) a0 a1) := by
  intro a0 a1 k
  have ih0 := laws_szBindS.mono_l k
  unfold laws_szBindS.f
  repeat' first
      | (with_reducible exact ih0 _ _ _)
      | (with_reducible exact LeO.refl _)
      | (with_reducible exact LeO.none _)
      | (with_reducible refine LeO.ite ?_ ?_)
      | (with_reducible refine LeO.bind ?_ (fun _ => ?_))
      | exact ih0 _ _ _
      | exact LeO.none _
      | refine LeO.ite ?_ ?_
      | refine LeO.bind ?_ (fun _ => ?_)
set_option maxHeartbeats 8000000 in
set_option maxRecDepth 100000 in
theorem laws_szBindS.calls (k : Nat) (A0 : Option Addr) (c0 : Nat) (l0 : List (S44)) (a1 : Int) (r : Int) (w : World) (hr0 : Kd.C k44 w A0 l0.length l0) (hc0 : l0.length ≤ c0) (h : laws_szBindS.f k l0 a1 = some r) :
    Calls Try.prog 5 #[.slice A0 l0.length c0, .int .i64 a1] w fun e w' => e = .returned (.int .i64 r) ∧ Below w.heap.size w w' := by
  have hu44 := Try.underlying44
  have HR0 := Aside0.mk hr0
  have HC0 := Aside0.mk hc0
  clear hr0 hc0
  have HB := Aside0.mk (Below.refl w.heap.size w)
  have H : (if (wrap64 (a1 - (l0.length : Int))) < 0 then (some (-1)) else (laws_szBindS.l0 k l0 (wrap64 (a1 - (l0.length : Int))) 0)) = some r := h
  clear h
  by_cases c3 : (wrap64 (a1 - (l0.length : Int))) < 0
  · rw [if_pos c3] at H
    have c3b0 : decide ((wrap64 (a1 - (l0.length : Int))) < 0) = true := decide_eq_true c3
    clear c3
    obtain rfl := Option.some.inj H
    go_enter Try.func5, Try.ntmps5
    go_wp2
    go_ret
    exact ⟨by first | rfl | (simp [errW_none, errW_some] <;> rfl) | (simp [*, errW_none, errW_some] <;> rfl), by repeat (first | (with_reducible first | exact HB.out | apply below_alloc | apply pw_below_drewN | apply below_drew1) | exact HB.out)⟩
  · rw [if_neg c3] at H
    have c3b0 : decide ((wrap64 (a1 - (l0.length : Int))) < 0) = false := decide_eq_false c3
    clear c3
    have H' := Aside0.mk H
    clear H
    go_enter Try.func5, Try.ntmps5
    go_wp2
    go_loopg [1, 5] k (fun kq v1 v5 w' => ∃ (x1_1 : Int) (x5_1 : Int), v1 = .int .i64 x1_1 ∧ v5 = .int .i64 x5_1 ∧ Aside0 (laws_szBindS.l0 kq l0 x1_1 x5_1 = some r) ∧ Aside0 (kq ≤ k) ∧ Aside0 (Below w.heap.size w w'))
    case atStart => exact ⟨(wrap64 (a1 - (l0.length : Int))), (0), (by first | rfl | (simp; done) | (simp [*]; done)), (by first | rfl | (simp; done) | (simp [*]; done)), H', ⟨Nat.le_refl _⟩, ⟨by repeat (first | (with_reducible first | exact HB.out | apply below_alloc | apply pw_below_drewN | apply below_drew1) | exact HB.out)⟩⟩
    case round =>
      clear H'
      try clear p2
      try clear c3
      try clear c3b0
      obtain ⟨x1_1, x5_1, rfl, rfl, HA, HK1, HB⟩ := hrel
      cases gk with
      | zero => exact absurd HA.out (by simp [laws_szBindS.l0])
      | succ k1 =>
        have H := HA.out
        clear HA
        simp only [laws_szBindS.l0] at H
        by_cases c4 : x5_1 < (l0.length : Int)
        · rw [if_pos c4] at H
          have c4b0 : decide (x5_1 < (l0.length : Int)) = true := decide_eq_true c4
          clear c4
          by_cases c5 : 0 ≤ x5_1
          · rw [if_pos c5] at H
            have c5b0 : decide (0 ≤ x5_1) = true := decide_eq_true c5
            clear c5
            replace H := Option.bind_eq_some_iff.mp H
            obtain ⟨t104, A60, H⟩ := H
            replace H : (if t104 < 0 then (some (-1)) else (laws_szBindS.l0 k1 l0 t104 (wrap64 (x5_1 + 1)))) = some r := H
            have A6 := Aside0.mk A60
            clear A60
            by_cases c7 : t104 < 0
            · rw [if_pos c7] at H
              have c7b0 : decide (t104 < 0) = true := decide_eq_true c7
              clear c7
              obtain rfl := Option.some.inj H
              have p103 : 0 ≤ (x5_1 : Int) := of_decide_eq_true (by first | (with_reducible assumption) | assumption)
              have q103 : x5_1 < (l0.length : Int) := of_decide_eq_true (by first | (with_reducible assumption) | assumption)
              obtain ⟨ad103, A103_1, c103_1, e103, hx103_0, hx103_1, hx103_2, hl103_1, hi103_1⟩ := at_T44 HR0.out x5_1 p103 q103
              cases e103
              replace hx103_0 := (HB.out.cell (World.block_lt_of_cell? w _ hx103_0)).trans hx103_0
              replace hx103_1 := (HB.out.cell (World.block_lt_of_cell? w _ hx103_1)).trans hx103_1
              replace hx103_2 := (HB.out.cell (World.block_lt_of_cell? w _ hx103_2)).trans hx103_2
              have HR103_1 := Aside0.mk hi103_1
              have HC103_1 := Aside0.mk hl103_1
              clear hi103_1 hl103_1
              replace p103 := eq_true p103
              replace q103 := eq_true q103
              go_wp2_with (first | ((with_reducible refine gate_callee (f := 15) rfl ?_); refine goesL_ (some 23) rfl rfl Try.func15 (by kernel_rfl) rfl #[.agg #[.string ((rd_T44 l0 x5_1).f0), .slice A103_1 ((rd_T44 l0 x5_1).f1).length c103_1, .int .i64 ((rd_T44 l0 x5_1).f2)], .int .i64 x1_1] rfl (by (try simp only [List.map_toArray, List.map_cons, List.map_nil]); first | done | rfl | (simp only [List.length_drop, List.length_take]; rfl)) ?_; (with_reducible refine (laws_szBind.calls ((rd_T44 l0 x5_1).f0) _ _ ((rd_T44 l0 x5_1).f1) ((rd_T44 l0 x5_1).f2) x1_1 t104 _ ?side1 ?side2 A6.out).mono ?_); (case side1 => repeat (first | exact (Kd.C_below HR103_1.out HB.out) | (with_reducible refine Kd.C_alloc ?_ _) | (with_reducible refine Kd.C_drewN ?_ _) | (with_reducible refine Kd.C_drew ?_))); (case side2 => exact HC103_1.out); rintro e w8 ⟨rfl, hb⟩; refine ⟨_, rfl, ?_⟩; have n0_ := Aside0.mk (below_step (by repeat (first | (with_reducible first | exact HB.out | apply below_alloc | apply pw_below_drewN | apply below_drew1) | exact HB.out)) hb); clear HB; have HB := n0_; clear n0_; (try clear hb); (try clear hb2); (try clear hk); (try clear hi)))
              go_ret
              exact ⟨by first | rfl | (simp [errW_none, errW_some] <;> rfl) | (simp [*, errW_none, errW_some] <;> rfl), by repeat (first | (with_reducible first | exact HB.out | apply below_alloc | apply pw_below_drewN | apply below_drew1) | exact HB.out)⟩
            · rw [if_neg c7] at H
              have c7b0 : decide (t104 < 0) = false := decide_eq_false c7
              clear c7
              have H' := Aside0.mk H
              clear H
              have p103 : 0 ≤ (x5_1 : Int) := of_decide_eq_true (by first | (with_reducible assumption) | assumption)
              have q103 : x5_1 < (l0.length : Int) := of_decide_eq_true (by first | (with_reducible assumption) | assumption)
              obtain ⟨ad103, A103_1, c103_1, e103, hx103_0, hx103_1, hx103_2, hl103_1, hi103_1⟩ := at_T44 HR0.out x5_1 p103 q103
              cases e103
              replace hx103_0 := (HB.out.cell (World.block_lt_of_cell? w _ hx103_0)).trans hx103_0
              replace hx103_1 := (HB.out.cell (World.block_lt_of_cell? w _ hx103_1)).trans hx103_1
              replace hx103_2 := (HB.out.cell (World.block_lt_of_cell? w _ hx103_2)).trans hx103_2
              have HR103_1 := Aside0.mk hi103_1
              have HC103_1 := Aside0.mk hl103_1
              clear hi103_1 hl103_1
              replace p103 := eq_true p103
              replace q103 := eq_true q103
              go_wp2_with (first | ((with_reducible refine gate_callee (f := 15) rfl ?_); refine goesL_ (some 23) rfl rfl Try.func15 (by kernel_rfl) rfl #[.agg #[.string ((rd_T44 l0 x5_1).f0), .slice A103_1 ((rd_T44 l0 x5_1).f1).length c103_1, .int .i64 ((rd_T44 l0 x5_1).f2)], .int .i64 x1_1] rfl (by (try simp only [List.map_toArray, List.map_cons, List.map_nil]); first | done | rfl | (simp only [List.length_drop, List.length_take]; rfl)) ?_; (with_reducible refine (laws_szBind.calls ((rd_T44 l0 x5_1).f0) _ _ ((rd_T44 l0 x5_1).f1) ((rd_T44 l0 x5_1).f2) x1_1 t104 _ ?side1 ?side2 A6.out).mono ?_); (case side1 => repeat (first | exact (Kd.C_below HR103_1.out HB.out) | (with_reducible refine Kd.C_alloc ?_ _) | (with_reducible refine Kd.C_drewN ?_ _) | (with_reducible refine Kd.C_drew ?_))); (case side2 => exact HC103_1.out); rintro e w9 ⟨rfl, hb⟩; refine ⟨_, rfl, ?_⟩; have n0_ := Aside0.mk (below_step (by repeat (first | (with_reducible first | exact HB.out | apply below_alloc | apply pw_below_drewN | apply below_drew1) | exact HB.out)) hb); clear HB; have HB := n0_; clear n0_; (try clear hb); (try clear hb2); (try clear hk); (try clear hi)))
              go_roundg k1
              case measure => have := HK1.out; omega
              case rel => exact ⟨(t104), (wrap64 (x5_1 + 1)), (by first | rfl | (simp; done) | (simp [*]; done)), (by first | rfl | (simp; done) | (simp [*]; done)), H', ⟨by have := HK1.out; omega⟩, ⟨by repeat (first | (with_reducible first | exact HB.out | apply below_alloc | apply pw_below_drewN | apply below_drew1) | exact HB.out)⟩⟩
          · rw [if_neg c5] at H
            exact absurd H (by simp)
        · rw [if_neg c4] at H
          have c4b0 : decide (x5_1 < (l0.length : Int)) = false := decide_eq_false c4
          clear c4
          obtain rfl := Option.some.inj H
          go_wp2
          go_ret
          exact ⟨by first | rfl | (simp [errW_none, errW_some] <;> rfl) | (simp [*, errW_none, errW_some] <;> rfl), by repeat (first | (with_reducible first | exact HB.out | apply below_alloc | apply pw_below_drewN | apply below_drew1) | exact HB.out)⟩

/-! ### spec_l1Letter: function 48 -/
def spec_l1Letter.f (a0 : Int) (a1 : Bool) : Option (Bool) := if a0 ≥ 97 then (if a0 ≤ 122 then (some true) else (if a0 = 42 then (some true) else (if a0 = 63 then (some true) else (if a0 = 61 then (some true) else (if a0 = 43 then (some true) else (if a0 = 60 then (some true) else (if a1 = true then (some false) else (if a0 ≥ 48 then (if a0 ≤ 57 then (some true) else (some (a0 == 45))) else (some (a0 == 45)))))))))) else (if a0 = 42 then (some true) else (if a0 = 63 then (some true) else (if a0 = 61 then (some true) else (if a0 = 43 then (some true) else (if a0 = 60 then (some true) else (if a1 = true then (some false) else (if a0 ≥ 48 then (if a0 ≤ 57 then (some true) else (some (a0 == 45))) else (some (a0 == 45)))))))))
set_option maxHeartbeats 8000000 in
set_option maxRecDepth 100000 in
theorem spec_l1Letter.calls (a0 : Int) (a1 : Bool) (r : Bool) (w : World) (h : spec_l1Letter.f a0 a1 = some r) :
    Calls Try.prog 48 #[.int .u8 a0, .bool a1] w fun e w' => e = .returned (.bool r) ∧ Drawn0 w w' := by
  have H : (if a0 ≥ 97 then (if a0 ≤ 122 then (some true) else (if a0 = 42 then (some true) else (if a0 = 63 then (some true) else (if a0 = 61 then (some true) else (if a0 = 43 then (some true) else (if a0 = 60 then (some true) else (if a1 = true then (some false) else (if a0 ≥ 48 then (if a0 ≤ 57 then (some true) else (some (a0 == 45))) else (some (a0 == 45)))))))))) else (if a0 = 42 then (some true) else (if a0 = 63 then (some true) else (if a0 = 61 then (some true) else (if a0 = 43 then (some true) else (if a0 = 60 then (some true) else (if a1 = true then (some false) else (if a0 ≥ 48 then (if a0 ≤ 57 then (some true) else (some (a0 == 45))) else (some (a0 == 45)))))))))) = some r := h
  clear h
  by_cases c3 : a0 ≥ 97
  · rw [if_pos c3] at H
    have c3b0 : decide (97 ≤ a0) = true := decide_eq_true c3
    clear c3
    by_cases c4 : a0 ≤ 122
    · rw [if_pos c4] at H
      have c4b0 : decide (a0 ≤ 122) = true := decide_eq_true c4
      clear c4
      obtain rfl := Option.some.inj H
      go_enter Try.func48, Try.ntmps48
      go_wp2
      go_ret
      exact ⟨by first | rfl | (simp; done) | (simp [*]; done), by repeat (first | exact Drawn0.refl _ | apply Drawn0.step)⟩
    · rw [if_neg c4] at H
      have c4b0 : decide (a0 ≤ 122) = false := decide_eq_false c4
      clear c4
      by_cases c5 : a0 = 42
      · rw [if_pos c5] at H
        have c5b0 : (a0 == 42) = true := beq_iff_eq.mpr c5
        have c5b1 : (a0 != 42) = false := bne_eq_false_iff_eq.mpr c5
        clear c5
        obtain rfl := Option.some.inj H
        go_enter Try.func48, Try.ntmps48
        go_wp2
        go_ret
        exact ⟨by first | rfl | (simp; done) | (simp [*]; done), by repeat (first | exact Drawn0.refl _ | apply Drawn0.step)⟩
      · rw [if_neg c5] at H
        have c5b0 : (a0 == 42) = false := beq_eq_false_iff_ne.mpr c5
        have c5b1 : (a0 != 42) = true := bne_iff_ne.mpr c5
        by_cases c6 : a0 = 63
        · rw [if_pos c6] at H
          have c6b0 : (a0 == 63) = true := beq_iff_eq.mpr c6
          have c6b1 : (a0 != 63) = false := bne_eq_false_iff_eq.mpr c6
          clear c6
          obtain rfl := Option.some.inj H
          go_enter Try.func48, Try.ntmps48
          go_wp2
          go_ret
          exact ⟨by first | rfl | (simp; done) | (simp [*]; done), by repeat (first | exact Drawn0.refl _ | apply Drawn0.step)⟩
        · rw [if_neg c6] at H
          have c6b0 : (a0 == 63) = false := beq_eq_false_iff_ne.mpr c6
          have c6b1 : (a0 != 63) = true := bne_iff_ne.mpr c6
          by_cases c7 : a0 = 61
          · rw [if_pos c7] at H
            have c7b0 : (a0 == 61) = true := beq_iff_eq.mpr c7
            have c7b1 : (a0 != 61) = false := bne_eq_false_iff_eq.mpr c7
            clear c7
            obtain rfl := Option.some.inj H
            go_enter Try.func48, Try.ntmps48
            go_wp2
            go_ret
            exact ⟨by first | rfl | (simp; done) | (simp [*]; done), by repeat (first | exact Drawn0.refl _ | apply Drawn0.step)⟩
          · rw [if_neg c7] at H
            have c7b0 : (a0 == 61) = false := beq_eq_false_iff_ne.mpr c7
            have c7b1 : (a0 != 61) = true := bne_iff_ne.mpr c7
            by_cases c8 : a0 = 43
            · rw [if_pos c8] at H
              have c8b0 : (a0 == 43) = true := beq_iff_eq.mpr c8
              have c8b1 : (a0 != 43) = false := bne_eq_false_iff_eq.mpr c8
              clear c8
              obtain rfl := Option.some.inj H
              go_enter Try.func48, Try.ntmps48
              go_wp2
              go_ret
              exact ⟨by first | rfl | (simp; done) | (simp [*]; done), by repeat (first | exact Drawn0.refl _ | apply Drawn0.step)⟩
            · rw [if_neg c8] at H
              have c8b0 : (a0 == 43) = false := beq_eq_false_iff_ne.mpr c8
              have c8b1 : (a0 != 43) = true := bne_iff_ne.mpr c8
              by_cases c9 : a0 = 60
              · rw [if_pos c9] at H
                have c9b0 : (a0 == 60) = true := beq_iff_eq.mpr c9
                have c9b1 : (a0 != 60) = false := bne_eq_false_iff_eq.mpr c9
                clear c9
                obtain rfl := Option.some.inj H
                go_enter Try.func48, Try.ntmps48
                go_wp2
                go_ret
                exact ⟨by first | rfl | (simp; done) | (simp [*]; done), by repeat (first | exact Drawn0.refl _ | apply Drawn0.step)⟩
              · rw [if_neg c9] at H
                have c9b0 : (a0 == 60) = false := beq_eq_false_iff_ne.mpr c9
                have c9b1 : (a0 != 60) = true := bne_iff_ne.mpr c9
                by_cases c10 : a1 = true
                · subst c10
                  have H1 : (some false) = some r := by rw [if_pos rfl] at H; exact H
                  clear H
                  have H := H1
                  clear H1
                  obtain rfl := Option.some.inj H
                  go_enter Try.func48, Try.ntmps48
                  go_wp2
                  go_ret
                  exact ⟨by first | rfl | (simp; done) | (simp [*]; done), by repeat (first | exact Drawn0.refl _ | apply Drawn0.step)⟩
                · replace c10 := Bool.eq_false_iff.mpr c10
                  subst c10
                  have H1 : (if a0 ≥ 48 then (if a0 ≤ 57 then (some true) else (some (a0 == 45))) else (some (a0 == 45))) = some r := by rw [if_neg (show ¬ (false = true) by decide)] at H; exact H
                  clear H
                  have H := H1
                  clear H1
                  by_cases c11 : a0 ≥ 48
                  · rw [if_pos c11] at H
                    have c11b0 : decide (48 ≤ a0) = true := decide_eq_true c11
                    clear c11
                    by_cases c12 : a0 ≤ 57
                    · rw [if_pos c12] at H
                      have c12b0 : decide (a0 ≤ 57) = true := decide_eq_true c12
                      clear c12
                      obtain rfl := Option.some.inj H
                      go_enter Try.func48, Try.ntmps48
                      go_wp2
                      go_ret
                      exact ⟨by first | rfl | (simp; done) | (simp [*]; done), by repeat (first | exact Drawn0.refl _ | apply Drawn0.step)⟩
                    · rw [if_neg c12] at H
                      have c12b0 : decide (a0 ≤ 57) = false := decide_eq_false c12
                      clear c12
                      obtain rfl := Option.some.inj H
                      go_enter Try.func48, Try.ntmps48
                      go_wp2
                      go_ret
                      exact ⟨by first | rfl | (simp; done) | (simp [*]; done), by repeat (first | exact Drawn0.refl _ | apply Drawn0.step)⟩
                  · rw [if_neg c11] at H
                    have c11b0 : decide (48 ≤ a0) = false := decide_eq_false c11
                    clear c11
                    obtain rfl := Option.some.inj H
                    go_enter Try.func48, Try.ntmps48
                    go_wp2
                    go_ret
                    exact ⟨by first | rfl | (simp; done) | (simp [*]; done), by repeat (first | exact Drawn0.refl _ | apply Drawn0.step)⟩
  · rw [if_neg c3] at H
    have c3b0 : decide (97 ≤ a0) = false := decide_eq_false c3
    clear c3
    by_cases c13 : a0 = 42
    · rw [if_pos c13] at H
      have c13b0 : (a0 == 42) = true := beq_iff_eq.mpr c13
      have c13b1 : (a0 != 42) = false := bne_eq_false_iff_eq.mpr c13
      clear c13
      obtain rfl := Option.some.inj H
      go_enter Try.func48, Try.ntmps48
      go_wp2
      go_ret
      exact ⟨by first | rfl | (simp; done) | (simp [*]; done), by repeat (first | exact Drawn0.refl _ | apply Drawn0.step)⟩
    · rw [if_neg c13] at H
      have c13b0 : (a0 == 42) = false := beq_eq_false_iff_ne.mpr c13
      have c13b1 : (a0 != 42) = true := bne_iff_ne.mpr c13
      by_cases c14 : a0 = 63
      · rw [if_pos c14] at H
        have c14b0 : (a0 == 63) = true := beq_iff_eq.mpr c14
        have c14b1 : (a0 != 63) = false := bne_eq_false_iff_eq.mpr c14
        clear c14
        obtain rfl := Option.some.inj H
        go_enter Try.func48, Try.ntmps48
        go_wp2
        go_ret
        exact ⟨by first | rfl | (simp; done) | (simp [*]; done), by repeat (first | exact Drawn0.refl _ | apply Drawn0.step)⟩
      · rw [if_neg c14] at H
        have c14b0 : (a0 == 63) = false := beq_eq_false_iff_ne.mpr c14
        have c14b1 : (a0 != 63) = true := bne_iff_ne.mpr c14
        by_cases c15 : a0 = 61
        · rw [if_pos c15] at H
          have c15b0 : (a0 == 61) = true := beq_iff_eq.mpr c15
          have c15b1 : (a0 != 61) = false := bne_eq_false_iff_eq.mpr c15
          clear c15
          obtain rfl := Option.some.inj H
          go_enter Try.func48, Try.ntmps48
          go_wp2
          go_ret
          exact ⟨by first | rfl | (simp; done) | (simp [*]; done), by repeat (first | exact Drawn0.refl _ | apply Drawn0.step)⟩
        · rw [if_neg c15] at H
          have c15b0 : (a0 == 61) = false := beq_eq_false_iff_ne.mpr c15
          have c15b1 : (a0 != 61) = true := bne_iff_ne.mpr c15
          by_cases c16 : a0 = 43
          · rw [if_pos c16] at H
            have c16b0 : (a0 == 43) = true := beq_iff_eq.mpr c16
            have c16b1 : (a0 != 43) = false := bne_eq_false_iff_eq.mpr c16
            clear c16
            obtain rfl := Option.some.inj H
            go_enter Try.func48, Try.ntmps48
            go_wp2
            go_ret
            exact ⟨by first | rfl | (simp; done) | (simp [*]; done), by repeat (first | exact Drawn0.refl _ | apply Drawn0.step)⟩
          · rw [if_neg c16] at H
            have c16b0 : (a0 == 43) = false := beq_eq_false_iff_ne.mpr c16
            have c16b1 : (a0 != 43) = true := bne_iff_ne.mpr c16
            by_cases c17 : a0 = 60
            · rw [if_pos c17] at H
              have c17b0 : (a0 == 60) = true := beq_iff_eq.mpr c17
              have c17b1 : (a0 != 60) = false := bne_eq_false_iff_eq.mpr c17
              clear c17
              obtain rfl := Option.some.inj H
              go_enter Try.func48, Try.ntmps48
              go_wp2
              go_ret
              exact ⟨by first | rfl | (simp; done) | (simp [*]; done), by repeat (first | exact Drawn0.refl _ | apply Drawn0.step)⟩
            · rw [if_neg c17] at H
              have c17b0 : (a0 == 60) = false := beq_eq_false_iff_ne.mpr c17
              have c17b1 : (a0 != 60) = true := bne_iff_ne.mpr c17
              by_cases c18 : a1 = true
              · subst c18
                have H1 : (some false) = some r := by rw [if_pos rfl] at H; exact H
                clear H
                have H := H1
                clear H1
                obtain rfl := Option.some.inj H
                go_enter Try.func48, Try.ntmps48
                go_wp2
                go_ret
                exact ⟨by first | rfl | (simp; done) | (simp [*]; done), by repeat (first | exact Drawn0.refl _ | apply Drawn0.step)⟩
              · replace c18 := Bool.eq_false_iff.mpr c18
                subst c18
                have H1 : (if a0 ≥ 48 then (if a0 ≤ 57 then (some true) else (some (a0 == 45))) else (some (a0 == 45))) = some r := by rw [if_neg (show ¬ (false = true) by decide)] at H; exact H
                clear H
                have H := H1
                clear H1
                by_cases c19 : a0 ≥ 48
                · rw [if_pos c19] at H
                  have c19b0 : decide (48 ≤ a0) = true := decide_eq_true c19
                  clear c19
                  by_cases c20 : a0 ≤ 57
                  · rw [if_pos c20] at H
                    have c20b0 : decide (a0 ≤ 57) = true := decide_eq_true c20
                    clear c20
                    obtain rfl := Option.some.inj H
                    go_enter Try.func48, Try.ntmps48
                    go_wp2
                    go_ret
                    exact ⟨by first | rfl | (simp; done) | (simp [*]; done), by repeat (first | exact Drawn0.refl _ | apply Drawn0.step)⟩
                  · rw [if_neg c20] at H
                    have c20b0 : decide (a0 ≤ 57) = false := decide_eq_false c20
                    clear c20
                    obtain rfl := Option.some.inj H
                    go_enter Try.func48, Try.ntmps48
                    go_wp2
                    go_ret
                    exact ⟨by first | rfl | (simp; done) | (simp [*]; done), by repeat (first | exact Drawn0.refl _ | apply Drawn0.step)⟩
                · rw [if_neg c19] at H
                  have c19b0 : decide (48 ≤ a0) = false := decide_eq_false c19
                  clear c19
                  obtain rfl := Option.some.inj H
                  go_enter Try.func48, Try.ntmps48
                  go_wp2
                  go_ret
                  exact ⟨by first | rfl | (simp; done) | (simp [*]; done), by repeat (first | exact Drawn0.refl _ | apply Drawn0.step)⟩

/-! ### spec_l1Count: function 50 -/
mutual
def spec_l1Count.l0 : Nat → Int → Int → Int → ByteArray → Int → List Int → List (S35) → Option (Int)
  | 0, _, _, _, _, _, _, _ => none
  | k + 1, x3, x4, x122000, x122001, x122002, x122003, x122004 => if x4 < (x122004.length : Int) then (if 0 ≤ x4 then ((spec_l1Count.f k ((rd_T35 x122004 x4).f0) ((rd_T35 x122004 x4).f1) ((rd_T35 x122004 x4).f2) ((rd_T35 x122004 x4).f3) ((rd_T35 x122004 x4).f4)).bind fun t123 => (spec_l1Count.l0 k (wrap64 (x3 + t123)) (wrap64 (x4 + 1)) x122000 x122001 x122002 x122003 x122004)) else (none)) else (some x3)
def spec_l1Count.f : Nat → Int → ByteArray → Int → List Int → List (S35) → Option (Int)
  | 0, _, _, _, _, _ => none
  | k + 1, a0_0, a0_1, a0_2, l0_3, l0_4 => spec_l1Count.l0 k 1 0 a0_0 a0_1 a0_2 l0_3 l0_4
end
theorem spec_l1Count.mono_l : ∀ k, (∀ y0 y1 y2 y3 y4, LeO (spec_l1Count.f k y0 y1 y2 y3 y4) (spec_l1Count.f (k + 1) y0 y1 y2 y3 y4)) ∧ (∀ y0 y1 y2 y3 y4 y5 y6, LeO (spec_l1Count.l0 k y0 y1 y2 y3 y4 y5 y6) (spec_l1Count.l0 (k + 1) y0 y1 y2 y3 y4 y5 y6))
  | 0 => ⟨fun _ _ _ _ _ r h => by simp [spec_l1Count.f] at h, fun _ _ _ _ _ _ _ r h => by simp [spec_l1Count.l0] at h⟩
  | k + 1 => by
    obtain ⟨ih0, ih1⟩ := spec_l1Count.mono_l k
    refine ⟨?_, ?_⟩
    · intro y0 y1 y2 y3 y4
      unfold spec_l1Count.f
      repeat' first
      | (with_reducible exact ih0 _ _ _ _ _)
      | (with_reducible exact ih1 _ _ _ _ _ _ _)
      | (with_reducible exact LeO.refl _)
      | (with_reducible exact LeO.none _)
      | (with_reducible refine LeO.ite ?_ ?_)
      | (with_reducible refine LeO.bind ?_ (fun _ => ?_))
      | exact ih0 _ _ _ _ _
      | exact ih1 _ _ _ _ _ _ _
      | exact LeO.none _
      | refine LeO.ite ?_ ?_
      | refine LeO.bind ?_ (fun _ => ?_)
    · intro y0 y1 y2 y3 y4 y5 y6
      unfold spec_l1Count.l0
      repeat' first
      | (with_reducible exact ih0 _ _ _ _ _)
      | (with_reducible exact ih1 _ _ _ _ _ _ _)
      | (with_reducible exact LeO.refl _)
      | (with_reducible exact LeO.none _)
      | (with_reducible refine LeO.ite ?_ ?_)
      | (with_reducible refine LeO.bind ?_ (fun _ => ?_))
      | exact ih0 _ _ _ _ _
      | exact ih1 _ _ _ _ _ _ _
      | exact LeO.none _
      | refine LeO.ite ?_ ?_
      | refine LeO.bind ?_ (fun _ => ?_)
theorem spec_l1Count.mono : ∀ a0 a1 a2 a3 a4 k, LeO (spec_l1Count.f k a0 a1 a2 a3 a4) (spec_l1Count.f (k + 1) a0 a1 a2 a3 a4) := by
  intro a0 a1 a2 a3 a4 k
  obtain ⟨ih0, ih1⟩ := spec_l1Count.mono_l k
  exact ih0 a0 a1 a2 a3 a4
set_option maxHeartbeats 8000000 in
set_option maxRecDepth 100000 in
theorem spec_l1Count.calls (k : Nat) : ∀ (a0_0 : Int) (a0_1 : ByteArray) (a0_2 : Int) (A0_3 : Option Addr) (c0_3 : Nat) (l0_3 : List Int) (A0_4 : Option Addr) (c0_4 : Nat) (l0_4 : List (S35)) (r : Int) (w : World) (hr0_3 : Kd.C (Kd.int .i64) w A0_3 l0_3.length l0_3) (hc0_3 : l0_3.length ≤ c0_3) (hr0_4 : Kd.C k35 w A0_4 l0_4.length l0_4) (hc0_4 : l0_4.length ≤ c0_4) (h : spec_l1Count.f k a0_0 a0_1 a0_2 l0_3 l0_4 = some r),
    Calls Try.prog 50 #[.agg #[.int .i64 a0_0, .string a0_1, .int .i64 a0_2, .slice A0_3 l0_3.length c0_3, .slice A0_4 l0_4.length c0_4]] w fun e w' => e = .returned (.int .i64 r) ∧ Below w.heap.size w w' := by
  induction k using Nat.strongRecOn with
  | _ k ih =>
  intro a0_0 a0_1 a0_2 A0_3 c0_3 l0_3 A0_4 c0_4 l0_4 r w hr0_3 hc0_3 hr0_4 hc0_4 h
  cases k with
  | zero => exact absurd h (by simp [spec_l1Count.f])
  | succ k =>
  simp only [spec_l1Count.f] at h
  have hu35 := Try.underlying35
  have HR0_3 := Aside0.mk hr0_3
  have HC0_3 := Aside0.mk hc0_3
  clear hr0_3 hc0_3
  have HR0_4 := Aside0.mk hr0_4
  have HC0_4 := Aside0.mk hc0_4
  clear hr0_4 hc0_4
  have HB := Aside0.mk (Below.refl w.heap.size w)
  have H : (spec_l1Count.l0 k 1 0 a0_0 a0_1 a0_2 l0_3 l0_4) = some r := h
  clear h
  have H' := Aside0.mk H
  clear H
  go_enter Try.func50, Try.ntmps50
  go_wp2_with (first | ((with_reducible refine gate_dst (N := 1) rfl ?_); refine box_event ?hg (N := 1) ?hd (cs := #[.int .i64 a0_0, .string a0_1, .int .i64 a0_2, .slice A0_3 l0_3.length c0_3, .slice A0_4 l0_4.length c0_4]) (t := 35) ?hr ?_; (case hd => rfl); (case hg => rfl); (case hr => first | (go_simp; done) | (go_simp; rfl)); intro gb121 hg w2 hbox hb; have n0_ := Aside0.mk (below_step (by repeat (first | (with_reducible first | exact HB.out | apply below_alloc | apply pw_below_drewN | apply below_drew1) | exact HB.out)) hb); have n1_ := Aside0.mk (hbox); have n2_ := Aside0.mk ((by rw [hg]; exact (below_size (by repeat (first | (with_reducible first | exact HB.out | apply below_alloc | apply pw_below_drewN | apply below_drew1) | exact HB.out))) : w.heap.size ≤ gb121)); have n3_ := Aside0.mk ((by rw [hg]; exact (below_size (by repeat (first | (with_reducible first | exact HB.out | apply below_alloc | apply pw_below_drewN | apply below_drew1) | exact HB.out))) : w.heap.size ≤ gb121)); clear HB; have HB := n0_; have BK121 := n1_; have GW121 := n2_; have GE121 := n3_; clear n0_ n1_ n2_ n3_; clear hb hbox hg))
  go_loopg [3, 4] k (fun kq v3 v4 w' => ∃ (x3_1 : Int) (x4_1 : Int), v3 = .int .i64 x3_1 ∧ v4 = .int .i64 x4_1 ∧ Aside0 (spec_l1Count.l0 kq x3_1 x4_1 a0_0 a0_1 a0_2 l0_3 l0_4 = some r) ∧ Aside0 (kq ≤ k) ∧ Aside0 (w'.heap[gb121]? = some (.cells #[.int .i64 a0_0, .string a0_1, .int .i64 a0_2, (.slice A0_3 l0_3.length c0_3), (.slice A0_4 l0_4.length c0_4)] 35 (0, 0))) ∧ Aside0 (Below w.heap.size w w'))
  case atStart => exact ⟨(1), (0), (by first | rfl | (simp; done) | (simp [*]; done)), (by first | rfl | (simp; done) | (simp [*]; done)), H', ⟨Nat.le_refl _⟩, ⟨by (with_reducible repeat (first | refine blk_drewN ?_ _ | refine blk_drew ?_ | refine blk_alloc ?_ _)); exact BK121.out⟩, ⟨by repeat (first | (with_reducible first | exact HB.out | apply below_alloc | apply pw_below_drewN | apply below_drew1 | refine below_set ?_ GE121.out) | exact HB.out)⟩⟩
  case round =>
    clear H'
    try clear p2
    obtain ⟨x3_1, x4_1, rfl, rfl, HA, HK1, BK121, HB⟩ := hrel
    cases gk with
    | zero => exact absurd HA.out (by simp [spec_l1Count.l0])
    | succ k1 =>
      have H := HA.out
      clear HA
      simp only [spec_l1Count.l0] at H
      by_cases c3 : x4_1 < (l0_4.length : Int)
      · rw [if_pos c3] at H
        have c3b0 : decide (x4_1 < (l0_4.length : Int)) = true := decide_eq_true c3
        clear c3
        by_cases c4 : 0 ≤ x4_1
        · rw [if_pos c4] at H
          have c4b0 : decide (0 ≤ x4_1) = true := decide_eq_true c4
          clear c4
          replace H := Option.bind_eq_some_iff.mp H
          obtain ⟨t123, A50, H⟩ := H
          replace H : (spec_l1Count.l0 k1 (wrap64 (x3_1 + t123)) (wrap64 (x4_1 + 1)) a0_0 a0_1 a0_2 l0_3 l0_4) = some r := H
          have A5 := Aside0.mk A50
          clear A50
          have H' := Aside0.mk H
          clear H
          have hcz6_0 : wr.cell? ⟨gb121, 0, none⟩ = some (.int .i64 a0_0) := (blk_cell BK121.out 0).trans rfl
          have hcz6_1 : wr.cell? ⟨gb121, 1, none⟩ = some (.string a0_1) := (blk_cell BK121.out 1).trans rfl
          have hcz6_2 : wr.cell? ⟨gb121, 2, none⟩ = some (.int .i64 a0_2) := (blk_cell BK121.out 2).trans rfl
          have hcz6_3 : wr.cell? ⟨gb121, 3, none⟩ = some (.slice A0_3 l0_3.length c0_3) := (blk_cell BK121.out 3).trans rfl
          have hcz6_4 : wr.cell? ⟨gb121, 4, none⟩ = some (.slice A0_4 l0_4.length c0_4) := (blk_cell BK121.out 4).trans rfl
          have hfz6_0 := blk_frozen BK121.out 0
          have hfz6_1 := blk_frozen BK121.out 1
          have hfz6_2 := blk_frozen BK121.out 2
          have hfz6_3 := blk_frozen BK121.out 3
          have hfz6_4 := blk_frozen BK121.out 4
          have p122 : 0 ≤ (x4_1 : Int) := of_decide_eq_true (by first | (with_reducible assumption) | assumption)
          have q122 : x4_1 < (l0_4.length : Int) := of_decide_eq_true (by first | (with_reducible assumption) | assumption)
          obtain ⟨ad122, A122_3, c122_3, A122_4, c122_4, e122, hx122_0, hx122_1, hx122_2, hx122_3, hx122_4, hl122_3, hi122_3, hl122_4, hi122_4⟩ := at_T35 HR0_4.out x4_1 p122 q122
          cases e122
          replace hx122_0 := (HB.out.cell (World.block_lt_of_cell? w _ hx122_0)).trans hx122_0
          replace hx122_1 := (HB.out.cell (World.block_lt_of_cell? w _ hx122_1)).trans hx122_1
          replace hx122_2 := (HB.out.cell (World.block_lt_of_cell? w _ hx122_2)).trans hx122_2
          replace hx122_3 := (HB.out.cell (World.block_lt_of_cell? w _ hx122_3)).trans hx122_3
          replace hx122_4 := (HB.out.cell (World.block_lt_of_cell? w _ hx122_4)).trans hx122_4
          have HR122_3 := Aside0.mk hi122_3
          have HC122_3 := Aside0.mk hl122_3
          clear hi122_3 hl122_3
          have HR122_4 := Aside0.mk hi122_4
          have HC122_4 := Aside0.mk hl122_4
          clear hi122_4 hl122_4
          replace p122 := eq_true p122
          replace q122 := eq_true q122
          go_wp2_with (first | ((with_reducible refine gate_callee (f := 50) rfl ?_); refine goesL_ (some 18) rfl rfl Try.func50 (by kernel_rfl) rfl #[.agg #[.int .i64 ((rd_T35 l0_4 x4_1).f0), .string ((rd_T35 l0_4 x4_1).f1), .int .i64 ((rd_T35 l0_4 x4_1).f2), .slice A122_3 ((rd_T35 l0_4 x4_1).f3).length c122_3, .slice A122_4 ((rd_T35 l0_4 x4_1).f4).length c122_4]] rfl (by (try simp only [List.map_toArray, List.map_cons, List.map_nil]); first | done | rfl | (simp only [List.length_drop, List.length_take]; rfl)) ?_; (with_reducible refine (ih k1 (by have := HK1.out; omega) ((rd_T35 l0_4 x4_1).f0) ((rd_T35 l0_4 x4_1).f1) ((rd_T35 l0_4 x4_1).f2) _ _ ((rd_T35 l0_4 x4_1).f3) _ _ ((rd_T35 l0_4 x4_1).f4) t123 _ ?side1 ?side2 ?side3 ?side4 A5.out).mono ?_); (case side1 => repeat (first | exact (Kd.C_below HR122_3.out HB.out) | (with_reducible refine Kd.C_alloc ?_ _) | (with_reducible refine Kd.C_drewN ?_ _) | (with_reducible refine Kd.C_drew ?_))); (case side2 => exact HC122_3.out); (case side3 => repeat (first | exact (Kd.C_below HR122_4.out HB.out) | (with_reducible refine Kd.C_alloc ?_ _) | (with_reducible refine Kd.C_drewN ?_ _) | (with_reducible refine Kd.C_drew ?_))); (case side4 => exact HC122_4.out); rintro e w7 ⟨rfl, hb⟩; refine ⟨_, rfl, ?_⟩; have n0_ := Aside0.mk (blk_below (g := gb121) (o := .cells #[.int .i64 a0_0, .string a0_1, .int .i64 a0_2, .slice A0_3 l0_3.length c0_3, .slice (some ad122) l0_4.length c0_4] 35 (0, 0)) (by (with_reducible repeat (first | refine blk_drewN ?_ _ | refine blk_drew ?_ | refine blk_alloc ?_ _)); exact BK121.out) hb); have n1_ := Aside0.mk (below_step (by repeat (first | (with_reducible first | exact HB.out | apply below_alloc | apply pw_below_drewN | apply below_drew1 | refine below_set ?_ GE121.out) | exact HB.out)) hb); clear BK121; clear HB; have BK121 := n0_; have HB := n1_; clear n0_ n1_; (try clear hb); (try clear hb2); (try clear hk); (try clear hi)))
          go_roundg k1
          case measure => have := HK1.out; omega
          case rel => exact ⟨(wrap64 (x3_1 + t123)), (wrap64 (x4_1 + 1)), (by first | rfl | (simp; done) | (simp [*]; done)), (by first | rfl | (simp; done) | (simp [*]; done)), H', ⟨by have := HK1.out; omega⟩, ⟨by (with_reducible repeat (first | refine blk_drewN ?_ _ | refine blk_drew ?_ | refine blk_alloc ?_ _)); exact BK121.out⟩, ⟨by repeat (first | (with_reducible first | exact HB.out | apply below_alloc | apply pw_below_drewN | apply below_drew1 | refine below_set ?_ GE121.out) | exact HB.out)⟩⟩
        · rw [if_neg c4] at H
          exact absurd H (by simp)
      · rw [if_neg c3] at H
        have c3b0 : decide (x4_1 < (l0_4.length : Int)) = false := decide_eq_false c3
        clear c3
        obtain rfl := Option.some.inj H
        have hcz8_0 : wr.cell? ⟨gb121, 0, none⟩ = some (.int .i64 a0_0) := (blk_cell BK121.out 0).trans rfl
        have hcz8_1 : wr.cell? ⟨gb121, 1, none⟩ = some (.string a0_1) := (blk_cell BK121.out 1).trans rfl
        have hcz8_2 : wr.cell? ⟨gb121, 2, none⟩ = some (.int .i64 a0_2) := (blk_cell BK121.out 2).trans rfl
        have hcz8_3 : wr.cell? ⟨gb121, 3, none⟩ = some (.slice A0_3 l0_3.length c0_3) := (blk_cell BK121.out 3).trans rfl
        have hcz8_4 : wr.cell? ⟨gb121, 4, none⟩ = some (.slice A0_4 l0_4.length c0_4) := (blk_cell BK121.out 4).trans rfl
        have hfz8_0 := blk_frozen BK121.out 0
        have hfz8_1 := blk_frozen BK121.out 1
        have hfz8_2 := blk_frozen BK121.out 2
        have hfz8_3 := blk_frozen BK121.out 3
        have hfz8_4 := blk_frozen BK121.out 4
        go_wp2
        go_ret
        exact ⟨by first | rfl | (simp [errW_none, errW_some] <;> rfl) | (simp [*, errW_none, errW_some] <;> rfl), by repeat (first | (with_reducible first | exact HB.out | apply below_alloc | apply pw_below_drewN | apply below_drew1 | refine below_set ?_ GE121.out) | exact HB.out)⟩

/-! ### laws_toIntS: function 22 -/
def laws_toIntS.l0 : Nat → List Int → List Int → Int → Option (List Int)
  | 0, _, _, _ => none
  | k + 1, x0, x3, x4 => if x4 < (x0.length : Int) then (if 0 ≤ x4 then (if x4 < (x3.length : Int) then (laws_toIntS.l0 k x0 (x3.set (x4 : Int).toNat (rd x0 x4)) (wrap64 (x4 + 1))) else (none)) else (none)) else (some x3)
def laws_toIntS.f (k : Nat) (l0 : List Int) : Option (List Int) := if 0 ≤ (l0.length : Int) then (if ((l0.length : Int) : Int).toNat ≤ 35184372088832 then (laws_toIntS.l0 k l0 (List.replicate ((l0.length : Int) : Int).toNat 0) 0) else (none)) else (none)
theorem laws_toIntS.mono_l : ∀ k, (∀ y0 y1 y2, LeO (laws_toIntS.l0 k y0 y1 y2) (laws_toIntS.l0 (k + 1) y0 y1 y2))
  | 0 => fun _ _ _ r h => by simp [laws_toIntS.l0] at h
  | k + 1 => by
    have ih0 := laws_toIntS.mono_l k
    · intro y0 y1 y2
      unfold laws_toIntS.l0
      repeat' first
      | (with_reducible exact ih0 _ _ _)
      | (with_reducible exact LeO.refl _)
      | (with_reducible exact LeO.none _)
      | (with_reducible refine LeO.ite ?_ ?_)
      | (with_reducible refine LeO.bind ?_ (fun _ => ?_))
      | exact ih0 _ _ _
      | exact LeO.none _
      | refine LeO.ite ?_ ?_
      | refine LeO.bind ?_ (fun _ => ?_)
theorem laws_toIntS.mono : ∀ a0 k, LeO (laws_toIntS.f k a0) (laws_toIntS.f (k + 1) a0) := by
  intro a0 k
  have ih0 := laws_toIntS.mono_l k
  unfold laws_toIntS.f
  repeat' first
      | (with_reducible exact ih0 _ _ _)
      | (with_reducible exact LeO.refl _)
      | (with_reducible exact LeO.none _)
      | (with_reducible refine LeO.ite ?_ ?_)
      | (with_reducible refine LeO.bind ?_ (fun _ => ?_))
      | exact ih0 _ _ _
      | exact LeO.none _
      | refine LeO.ite ?_ ?_
      | refine LeO.bind ?_ (fun _ => ?_)
set_option maxHeartbeats 8000000 in
set_option maxRecDepth 100000 in
theorem laws_toIntS.calls (k : Nat) (A0 : Option Addr) (c0 : Nat) (l0 : List Int) (r : List Int) (w : World) (hr0 : Kd.C (Kd.int .i64) w A0 l0.length l0) (hc0 : l0.length ≤ c0) (h : laws_toIntS.f k l0 = some r) :
    Calls Try.prog 22 #[.slice A0 l0.length c0] w fun e w' => ∃ v0_ : Value, e = .returned (v0_) ∧ Kd.R (Kd.int .i64) 3 w' w.heap.size (fun _ => True) v0_ r ∧ Below w.heap.size w w' := by
  have HR0 := Aside0.mk hr0
  have HC0 := Aside0.mk hc0
  clear hr0 hc0
  have HB := Aside0.mk (Below.refl w.heap.size w)
  have H : (if 0 ≤ (l0.length : Int) then (if ((l0.length : Int) : Int).toNat ≤ 35184372088832 then (laws_toIntS.l0 k l0 (List.replicate ((l0.length : Int) : Int).toNat 0) 0) else (none)) else (none)) = some r := h
  clear h
  by_cases c2 : 0 ≤ (l0.length : Int)
  · rw [if_pos c2] at H
    have c2b0 := eq_true c2
    have c2b1 : decide (0 ≤ (l0.length : Int)) = true := decide_eq_true c2
    clear c2
    by_cases c3 : ((l0.length : Int) : Int).toNat ≤ 35184372088832
    · rw [if_pos c3] at H
      have c3b0 := eq_true c3
      have c3b1 : decide (((l0.length : Int) : Int).toNat ≤ 35184372088832) = true := decide_eq_true c3
      clear c3
      obtain ⟨y152, hy152⟩ : ∃ y_ : List Int, y_ = (List.replicate ((l0.length : Int) : Int).toNat 0) := ⟨_, rfl⟩
      replace H : (laws_toIntS.l0 k l0 y152 0) = some r := by first | (rw [hy152]; with_reducible exact H) | (have H2_ := (Option.bind_some _ _).symm.trans H; rw [hy152]; with_reducible exact H2_) | (have H2_ := (Option.bind_some _ _).symm.trans H; with_reducible exact H2_) | with_reducible exact H | (rw [hy152]; exact H) | exact H
      have Ny152 := Aside0.mk hy152
      clear hy152
      have H' := Aside0.mk H
      clear H
      go_enter Try.func22, Try.ntmps22
      go_wp2_with (first | ((with_reducible refine gate_dst (N := 7) rfl ?_); refine Kd.R_make (Kd.int .i64) _ 3 rfl (N := 7) rfl 23 _ _ rfl (l0.length : Int) rfl rfl Try.underlying23 (.int .i64 0) 8 info3 rfl (by decide) (by omega) 0 (ok := fun _ => True) (okp := fun _ => True) rfl (fun _ hk => hk) trivial (of_decide_eq_true (by first | (with_reducible assumption) | assumption)) (Nat.le_trans (Nat.mul_le_mul_right _ (of_decide_eq_true (by first | (with_reducible assumption) | assumption) : (l0.length : Int).toNat ≤ 35184372088832)) (by omega)) (Below.refl _ _) (Nat.le_refl _) ?_; intro v153 w4 ho5 hb hg_ hnew_; clear hg_ hnew_; (first | rw [← Ny152.out] at ho5 | (simp only [Int.reduceToNat] at ho5; rw [← Ny152.out] at ho5)); have n0_ := Aside0.mk (Kd.R_lower ho5 (below_size (by repeat (first | (with_reducible first | exact HB.out | apply below_alloc | apply pw_below_drewN | apply below_drew1) | exact HB.out)))); have n1_ := Aside0.mk (below_step (by repeat (first | (with_reducible first | exact HB.out | apply below_alloc | apply pw_below_drewN | apply below_drew1) | exact HB.out)) hb); clear HB; have HO154 := n0_; have HB := n1_; clear n0_ n1_; clear hb ho5))
      go_loopg [4] k (fun kq v4 w' => ∃ (x3_1 : List Int) (x4_1 : Int), v4 = .int .i64 x4_1 ∧ Aside0 (laws_toIntS.l0 kq l0 x3_1 x4_1 = some r) ∧ Aside0 (kq ≤ k) ∧ Aside0 (Kd.R (Kd.int .i64) 3 w' w.heap.size (fun _ => True) v153 x3_1) ∧ Aside0 (Below w.heap.size w w'))
      case atStart => exact ⟨(y152), (0), (by first | rfl | (simp; done) | (simp [*]; done)), H', ⟨Nat.le_refl _⟩, ⟨by (with_reducible repeat (first | apply Kd.R_alloc | apply Kd.R_drewN | apply Kd.R_drew)); exact HO154.out⟩, ⟨by repeat (first | (with_reducible first | exact HB.out | apply below_alloc | apply pw_below_drewN | apply below_drew1) | exact HB.out)⟩⟩
      case round =>
        clear H'
        try clear c2
        try clear c2b0
        try clear c2b1
        try clear p2
        try clear c3
        try clear c3b0
        try clear c3b1
        obtain ⟨x3_1, x4_1, rfl, HA, HK1, HO_3, HB⟩ := hrel
        cases gk with
        | zero => exact absurd HA.out (by simp [laws_toIntS.l0])
        | succ k1 =>
          have H := HA.out
          clear HA
          simp only [laws_toIntS.l0] at H
          by_cases c6 : x4_1 < (l0.length : Int)
          · rw [if_pos c6] at H
            have c6b0 : decide (x4_1 < (l0.length : Int)) = true := decide_eq_true c6
            clear c6
            by_cases c7 : 0 ≤ x4_1
            · rw [if_pos c7] at H
              have c7b0 : decide (0 ≤ x4_1) = true := decide_eq_true c7
              clear c7
              by_cases c8 : x4_1 < (x3_1.length : Int)
              · rw [if_pos c8] at H
                have c8b0 : decide (x4_1 < (x3_1.length : Int)) = true := decide_eq_true c8
                clear c8
                obtain ⟨y156, hy156⟩ : ∃ y_ : List Int, y_ = (x3_1.set (x4_1 : Int).toNat (rd l0 x4_1)) := ⟨_, rfl⟩
                replace H : (laws_toIntS.l0 k1 l0 y156 (wrap64 (x4_1 + 1))) = some r := by first | (rw [hy156]; with_reducible exact H) | (have H2_ := (Option.bind_some _ _).symm.trans H; rw [hy156]; with_reducible exact H2_) | (have H2_ := (Option.bind_some _ _).symm.trans H; with_reducible exact H2_) | with_reducible exact H | (rw [hy156]; exact H) | exact H
                have Ny156 := Aside0.mk hy156
                clear hy156
                have H' := Aside0.mk H
                clear H
                have p155 : 0 ≤ (x4_1 : Int) := of_decide_eq_true (by first | (with_reducible assumption) | assumption)
                have q155 : x4_1 < (l0.length : Int) := of_decide_eq_true (by first | (with_reducible assumption) | assumption)
                obtain ⟨ad155, e155, hx155_0⟩ := Kd.at_int HR0.out x4_1 p155 q155
                cases e155
                replace hx155_0 := (HB.out.cell (World.block_lt_of_cell? w _ hx155_0)).trans hx155_0
                replace p155 := eq_true p155
                replace q155 := eq_true q155
                have p9 : 0 ≤ (x4_1 : Int) := of_decide_eq_true (by first | (with_reducible assumption) | assumption)
                have q9 : (x4_1 : Int) < ((x3_1.length : Int) : Int) := of_decide_eq_true (by first | (with_reducible assumption) | assumption)
                obtain ⟨go9, co9, eo9, gb9, gl9, cl9, HG9⟩ := Kd.R_form HO_3.out (by omega)
                (first | cases eo9 | (injection eo9 with ea_ en_ ec_; (first | subst ea_ | (injection ea_ with ea_; subst ea_)); subst ec_; clear en_))
                have GB9 := Aside0.mk gb9
                have GG9 := Aside0.mk HG9
                clear gb9 gl9 HG9
                obtain ⟨hx9_0, hf9_0⟩ := Kd.R_celln 0 HO_3.out (x4_1 : Int) p9 q9
                replace p9 := eq_true p9
                replace q9 := eq_true q9
                have HP10 := Kd.R_putg HO_3.out (x4_1 : Int) (rd l0 x4_1)
                go_wp2_with (first | ((with_reducible refine gate_store (t := 3) (p := 20) rfl ?_); refine store_event (t := 3) (p := 20) (v := ?vo_w11) (w1 := (wr.setCell ⟨go9, (x4_1 : Int).toNat, none⟩ (.int .i64 (rd l0 x4_1)))) ?hg ?ho ?hn ?hr ?_; (case ho => rfl); (case hg => rfl); (case hn => rfl); (case hr => first | (go_simp; done) | (go_simp; rfl)); intro w11 hw; have hg : wr.grownBy w11 (some go9) := (by rw [hw]; exact HP10.2); have hp_ : Kd.R (Kd.int .i64) 3 w11 w.heap.size (fun _ => True) (.slice (some ⟨go9, 0, none⟩) x3_1.length co9) y156 := (by rw [hw, Ny156.out]; exact HP10.1); clear HP10; have n0_ := Aside0.mk (hp_); have n1_ := Aside0.mk ((by rw [hw]; exact below_set (HB.out) GB9.out : Below w.heap.size w w11)); clear HO_3; clear HB; have HO_3 := n0_; have HB := n1_; clear n0_ n1_; clear hg hw hp_))
                go_roundg k1
                case measure => have := HK1.out; omega
                case rel => exact ⟨(y156), (wrap64 (x4_1 + 1)), (by first | rfl | (simp; done) | (simp [*]; done)), H', ⟨by have := HK1.out; omega⟩, ⟨by (with_reducible repeat (first | apply Kd.R_alloc | apply Kd.R_drewN | apply Kd.R_drew)); exact HO_3.out⟩, ⟨by repeat (first | (with_reducible first | exact HB.out | apply below_alloc | apply pw_below_drewN | apply below_drew1) | exact HB.out)⟩⟩
              · rw [if_neg c8] at H
                exact absurd H (by simp)
            · rw [if_neg c7] at H
              exact absurd H (by simp)
          · rw [if_neg c6] at H
            have c6b0 : decide (x4_1 < (l0.length : Int)) = false := decide_eq_false c6
            clear c6
            obtain rfl := Option.some.inj H
            go_wp2
            go_ret
            exact ⟨_, by first | rfl | (simp [errW_none, errW_some] <;> rfl) | (simp [*, errW_none, errW_some] <;> rfl), by (with_reducible repeat (first | apply Kd.R_alloc | apply Kd.R_drewN | apply Kd.R_drew)); exact HO_3.out, by repeat (first | (with_reducible first | exact HB.out | apply below_alloc | apply pw_below_drewN | apply below_drew1) | exact HB.out)⟩
    · rw [if_neg c3] at H
      exact absurd H (by simp)
  · rw [if_neg c2] at H
    exact absurd H (by simp)

/-! ### laws_toBind: function 21 -/
def laws_toBind.f (k : Nat) (a0_0 : ByteArray) (l0_1 : List Int) (a0_2 : Int) : Option (ByteArray × List Int × Int) := (laws_toIntS.f k l0_1).bind fun t160 => (some (a0_0, t160, a0_2))
theorem laws_toBind.mono : ∀ a0 a1 a2 k, LeO (laws_toBind.f k a0 a1 a2) (laws_toBind.f (k + 1) a0 a1 a2) := by
  intro a0 a1 a2 k
  unfold laws_toBind.f
  repeat' first
      | (with_reducible exact laws_toIntS.mono _ _)
      | (with_reducible exact LeO.refl _)
      | (with_reducible exact LeO.none _)
      | (with_reducible refine LeO.ite ?_ ?_)
      | (with_reducible refine LeO.bind ?_ (fun _ => ?_))
      | exact laws_toIntS.mono _ _
      | exact LeO.none _
      | refine LeO.ite ?_ ?_
      | refine LeO.bind ?_ (fun _ => ?_)
set_option maxHeartbeats 8000000 in
set_option maxRecDepth 100000 in
theorem laws_toBind.calls (k : Nat) (a0_0 : ByteArray) (A0_1 : Option Addr) (c0_1 : Nat) (l0_1 : List Int) (a0_2 : Int) (r1 : ByteArray) (r2 : List Int) (r3 : Int) (w : World) (hr0_1 : Kd.C (Kd.int .i64) w A0_1 l0_1.length l0_1) (hc0_1 : l0_1.length ≤ c0_1) (h : laws_toBind.f k a0_0 l0_1 a0_2 = some (r1, r2, r3)) :
    Calls Try.prog 21 #[.agg #[.string a0_0, .slice A0_1 l0_1.length c0_1, .int .i64 a0_2]] w fun e w' => ∃ v1_ : Value, e = .returned (.agg #[.string r1, v1_, .int .i64 r3]) ∧ Kd.R (Kd.int .i64) 3 w' w.heap.size (fun _ => True) v1_ r2 ∧ Below w.heap.size w w' := by
  have hu44 := Try.underlying44
  have hu49 := Try.underlying49
  have HR0_1 := Aside0.mk hr0_1
  have HC0_1 := Aside0.mk hc0_1
  clear hr0_1 hc0_1
  have HB := Aside0.mk (Below.refl w.heap.size w)
  have H : ((laws_toIntS.f k l0_1).bind fun t160 => (some (a0_0, t160, a0_2))) = some (r1, r2, r3) := h
  clear h
  replace H := Option.bind_eq_some_iff.mp H
  obtain ⟨t160, A20, H⟩ := H
  replace H : (some (a0_0, t160, a0_2)) = some (r1, r2, r3) := H
  have A2 := Aside0.mk A20
  clear A20
  simp only [Option.some.injEq, Prod.mk.injEq] at H
  obtain ⟨rfl, rfl, rfl⟩ := H
  go_enter Try.func21, Try.ntmps21
  go_wp2_with (first | ((with_reducible refine gate_dst (N := 1) rfl ?_); refine box_event ?hg (N := 1) ?hd (cs := #[.string a0_0, .slice A0_1 l0_1.length c0_1, .int .i64 a0_2]) (t := 44) ?hr ?_; (case hd => rfl); (case hg => rfl); (case hr => first | (go_simp; done) | (go_simp; rfl)); intro gb157 hg w3 hbox hb; have n0_ := Aside0.mk (below_step (by repeat (first | (with_reducible first | exact HB.out | apply below_alloc | apply pw_below_drewN | apply below_drew1) | exact HB.out)) hb); have n1_ := Aside0.mk (hbox); have n2_ := Aside0.mk ((by rw [hg]; exact (below_size (by repeat (first | (with_reducible first | exact HB.out | apply below_alloc | apply pw_below_drewN | apply below_drew1) | exact HB.out))) : w.heap.size ≤ gb157)); have n3_ := Aside0.mk ((by rw [hg]; exact (below_size (by repeat (first | (with_reducible first | exact HB.out | apply below_alloc | apply pw_below_drewN | apply below_drew1) | exact HB.out))) : w.heap.size ≤ gb157)); clear HB; have HB := n0_; have BK157 := n1_; have GW157 := n2_; have GE157 := n3_; clear n0_ n1_ n2_ n3_; clear hb hbox hg) | ((with_reducible refine gate_dst (N := 2) rfl ?_); refine box_event ?hg (N := 2) ?hd (cs := #[.string (⟨#[]⟩ : ByteArray), .slice none 0 0, .int .i64 0]) (t := 49) ?hr ?_; (case hd => rfl); (case hg => rfl); (case hr => first | (go_simp; done) | (go_simp; rfl)); intro gb158 hg w4 hbox hb; have n0_ := Aside0.mk (blk_below (g := gb157) (o := .cells #[.string a0_0, .slice A0_1 l0_1.length c0_1, .int .i64 a0_2] 44 (0, 0)) (by (with_reducible repeat (first | refine blk_drewN ?_ _ | refine blk_drew ?_ | refine blk_alloc ?_ _)); exact BK157.out) hb); have n1_ := Aside0.mk (below_step (by repeat (first | (with_reducible first | exact HB.out | apply below_alloc | apply pw_below_drewN | apply below_drew1 | refine below_set ?_ GE157.out) | exact HB.out)) hb); have n2_ := Aside0.mk (hbox); have n3_ := Aside0.mk ((by rw [hg]; exact (below_size (by repeat (first | (with_reducible first | exact HB.out | apply below_alloc | apply pw_below_drewN | apply below_drew1 | refine below_set ?_ GE157.out) | exact HB.out))) : w.heap.size ≤ gb158)); have n4_ := Aside0.mk ((by rw [hg]; exact (below_size (by repeat (first | (with_reducible first | exact HB.out | apply below_alloc | apply pw_below_drewN | apply below_drew1 | refine below_set ?_ GE157.out) | exact HB.out))) : w.heap.size ≤ gb158)); have n5_ := Aside0.mk ((by rw [hg]; exact Nat.ne_of_lt (blk_lt (g := gb157) (o := .cells #[.string a0_0, .slice A0_1 l0_1.length c0_1, .int .i64 a0_2] 44 (0, 0)) (by (with_reducible repeat (first | refine blk_drewN ?_ _ | refine blk_drew ?_ | refine blk_alloc ?_ _)); exact BK157.out)) : gb157 ≠ gb158)); have n6_ := Aside0.mk ((by rw [hg]; exact Nat.ne_of_gt (blk_lt (g := gb157) (o := .cells #[.string a0_0, .slice A0_1 l0_1.length c0_1, .int .i64 a0_2] 44 (0, 0)) (by (with_reducible repeat (first | refine blk_drewN ?_ _ | refine blk_drew ?_ | refine blk_alloc ?_ _)); exact BK157.out)) : gb158 ≠ gb157)); clear BK157; clear HB; have BK157 := n0_; have HB := n1_; have BK158 := n2_; have GW158 := n3_; have GE158 := n4_; have NB157_158 := n5_; have NB158_157 := n6_; clear n0_ n1_ n2_ n3_ n4_ n5_ n6_; clear hb hbox hg) | ((with_reducible refine gate_dst (N := 3) rfl ?_); refine box_event ?hg (N := 3) ?hd (cs := #[.string (⟨#[]⟩ : ByteArray), .slice none 0 0, .int .i64 0]) (t := 49) ?hr ?_; (case hd => rfl); (case hg => rfl); (case hr => first | (go_simp; done) | (go_simp; rfl)); intro gb159 hg w5 hbox hb; have n0_ := Aside0.mk (blk_below (g := gb157) (o := .cells #[.string a0_0, .slice A0_1 l0_1.length c0_1, .int .i64 a0_2] 44 (0, 0)) (by (with_reducible repeat (first | refine blk_drewN ?_ _ | refine blk_drew ?_ | refine blk_alloc ?_ _)); exact BK157.out) hb); have n1_ := Aside0.mk (blk_below (g := gb158) (o := .cells #[.string (⟨#[]⟩ : ByteArray), .slice none 0 0, .int .i64 0] 49 (0, 0)) (by (with_reducible repeat (first | refine blk_drewN ?_ _ | refine blk_drew ?_ | refine blk_alloc ?_ _)); exact BK158.out) hb); have n2_ := Aside0.mk (below_step (by repeat (first | (with_reducible first | exact HB.out | apply below_alloc | apply pw_below_drewN | apply below_drew1 | refine below_set ?_ GE157.out | refine below_set ?_ GE158.out) | exact HB.out)) hb); have n3_ := Aside0.mk (hbox); have n4_ := Aside0.mk ((by rw [hg]; exact (below_size (by repeat (first | (with_reducible first | exact HB.out | apply below_alloc | apply pw_below_drewN | apply below_drew1 | refine below_set ?_ GE157.out | refine below_set ?_ GE158.out) | exact HB.out))) : w.heap.size ≤ gb159)); have n5_ := Aside0.mk ((by rw [hg]; exact (below_size (by repeat (first | (with_reducible first | exact HB.out | apply below_alloc | apply pw_below_drewN | apply below_drew1 | refine below_set ?_ GE157.out | refine below_set ?_ GE158.out) | exact HB.out))) : w.heap.size ≤ gb159)); have n6_ := Aside0.mk ((by rw [hg]; exact Nat.ne_of_lt (blk_lt (g := gb157) (o := .cells #[.string a0_0, .slice A0_1 l0_1.length c0_1, .int .i64 a0_2] 44 (0, 0)) (by (with_reducible repeat (first | refine blk_drewN ?_ _ | refine blk_drew ?_ | refine blk_alloc ?_ _)); exact BK157.out)) : gb157 ≠ gb159)); have n7_ := Aside0.mk ((by rw [hg]; exact Nat.ne_of_gt (blk_lt (g := gb157) (o := .cells #[.string a0_0, .slice A0_1 l0_1.length c0_1, .int .i64 a0_2] 44 (0, 0)) (by (with_reducible repeat (first | refine blk_drewN ?_ _ | refine blk_drew ?_ | refine blk_alloc ?_ _)); exact BK157.out)) : gb159 ≠ gb157)); have n8_ := Aside0.mk ((by rw [hg]; exact Nat.ne_of_lt (blk_lt (g := gb158) (o := .cells #[.string (⟨#[]⟩ : ByteArray), .slice none 0 0, .int .i64 0] 49 (0, 0)) (by (with_reducible repeat (first | refine blk_drewN ?_ _ | refine blk_drew ?_ | refine blk_alloc ?_ _)); exact BK158.out)) : gb158 ≠ gb159)); have n9_ := Aside0.mk ((by rw [hg]; exact Nat.ne_of_gt (blk_lt (g := gb158) (o := .cells #[.string (⟨#[]⟩ : ByteArray), .slice none 0 0, .int .i64 0] 49 (0, 0)) (by (with_reducible repeat (first | refine blk_drewN ?_ _ | refine blk_drew ?_ | refine blk_alloc ?_ _)); exact BK158.out)) : gb159 ≠ gb158)); clear BK157; clear BK158; clear HB; have BK157 := n0_; have BK158 := n1_; have HB := n2_; have BK159 := n3_; have GW159 := n4_; have GE159 := n5_; have NB157_159 := n6_; have NB159_157 := n7_; have NB158_159 := n8_; have NB159_158 := n9_; clear n0_ n1_ n2_ n3_ n4_ n5_ n6_ n7_ n8_ n9_; clear hb hbox hg; have hnb6 := NB157_158.out; have hnc6 := NB158_157.out; have hnb7 := NB157_159.out; have hnc7 := NB159_157.out; have hcz8_0 : w5.cell? ⟨gb157, 0, none⟩ = some (.string a0_0) := (blk_cell BK157.out 0).trans rfl; have hcz8_1 : w5.cell? ⟨gb157, 1, none⟩ = some (.slice A0_1 l0_1.length c0_1) := (blk_cell BK157.out 1).trans rfl; have hcz8_2 : w5.cell? ⟨gb157, 2, none⟩ = some (.int .i64 a0_2) := (blk_cell BK157.out 2).trans rfl; have hfz8_0 := blk_frozen BK157.out 0; have hfz8_1 := blk_frozen BK157.out 1; have hfz8_2 := blk_frozen BK157.out 2; have hnb9 := NB159_158.out; have hnc9 := NB158_159.out; have hcz10_0 : w5.cell? ⟨gb159, 0, none⟩ = some (.string (⟨#[]⟩ : ByteArray)) := (blk_cell BK159.out 0).trans rfl; have hcz10_1 : w5.cell? ⟨gb159, 1, none⟩ = some (.slice none 0 0) := (blk_cell BK159.out 1).trans rfl; have hcz10_2 : w5.cell? ⟨gb159, 2, none⟩ = some (.int .i64 0) := (blk_cell BK159.out 2).trans rfl; have hfz10_0 := blk_frozen BK159.out 0; have hfz10_1 := blk_frozen BK159.out 1; have hfz10_2 := blk_frozen BK159.out 2) | ((with_reducible refine gate_callee (f := 22) rfl ?_); refine goesL_ (some 9) rfl rfl Try.func22 (by kernel_rfl) rfl #[.slice A0_1 l0_1.length c0_1] rfl (by (try simp only [List.map_toArray, List.map_cons, List.map_nil]); first | done | rfl | (simp only [List.length_drop, List.length_take]; rfl)) ?_; (with_reducible refine (laws_toIntS.calls k _ _ l0_1 t160 _ ?side1 ?side2 A2.out).mono ?_); (case side1 => exact Kd.C_below HR0_1.out (by repeat (first | (with_reducible first | exact HB.out | apply below_alloc | apply pw_below_drewN | apply below_drew1 | refine below_set ?_ GE157.out | refine below_set ?_ GE158.out | refine below_set ?_ GE159.out) | exact HB.out))); (case side2 => exact HC0_1.out); rintro e w11 ⟨v161, rfl, ho0, hb⟩; refine ⟨_, rfl, ?_⟩; have n0_ := Aside0.mk (Kd.R_lower ho0 (below_size (by repeat (first | (with_reducible first | exact HB.out | apply below_alloc | apply pw_below_drewN | apply below_drew1 | refine below_set ?_ GE157.out | refine below_set ?_ GE158.out | refine below_set ?_ GE159.out) | exact HB.out)))); have n1_ := Aside0.mk (blk_below (g := gb157) (o := .cells #[.string a0_0, .slice A0_1 l0_1.length c0_1, .int .i64 a0_2] 44 (0, 0)) (by (with_reducible repeat (first | refine blk_drewN ?_ _ | refine blk_drew ?_ | refine blk_alloc ?_ _)); refine blk_far ?_ NB157_159.out _; (with_reducible repeat (first | refine blk_drewN ?_ _ | refine blk_drew ?_ | refine blk_alloc ?_ _)); exact BK157.out) hb); have n2_ := Aside0.mk (blk_below (g := gb158) (o := .cells #[.string (⟨#[]⟩ : ByteArray), .slice none 0 0, .int .i64 0] 49 (0, 0)) (by (with_reducible repeat (first | refine blk_drewN ?_ _ | refine blk_drew ?_ | refine blk_alloc ?_ _)); refine blk_far ?_ NB158_159.out _; (with_reducible repeat (first | refine blk_drewN ?_ _ | refine blk_drew ?_ | refine blk_alloc ?_ _)); exact BK158.out) hb); have n3_ := Aside0.mk (blk_below (g := gb159) (o := .cells #[.string a0_0, .slice none 0 0, .int .i64 0] 49 (0, 0)) (by (with_reducible repeat (first | refine blk_drewN ?_ _ | refine blk_drew ?_ | refine blk_alloc ?_ _)); refine blk_put (cs := #[.string (⟨#[]⟩ : ByteArray), .slice none 0 0, .int .i64 0]) ?_ 0 _ rfl; (with_reducible repeat (first | refine blk_drewN ?_ _ | refine blk_drew ?_ | refine blk_alloc ?_ _)); exact BK159.out) hb); have n4_ := Aside0.mk (below_step (by repeat (first | (with_reducible first | exact HB.out | apply below_alloc | apply pw_below_drewN | apply below_drew1 | refine below_set ?_ GE157.out | refine below_set ?_ GE158.out | refine below_set ?_ GE159.out) | exact HB.out)) hb); clear BK157; clear BK158; clear BK159; clear HB; have HO162 := n0_; have BK157 := n1_; have BK158 := n2_; have BK159 := n3_; have HB := n4_; clear n0_ n1_ n2_ n3_ n4_; (try clear hb); (try clear hb2); (try clear hk); (try clear hi); (try clear ho0); obtain ⟨Ao12, co12, eo12⟩ := Kd.R_slice HO162.out; subst eo12; have hcz13_0 : w11.cell? ⟨gb159, 0, none⟩ = some (.string a0_0) := (blk_cell BK159.out 0).trans rfl; have hcz13_1 : w11.cell? ⟨gb159, 1, none⟩ = some (.slice none 0 0) := (blk_cell BK159.out 1).trans rfl; have hcz13_2 : w11.cell? ⟨gb159, 2, none⟩ = some (.int .i64 0) := (blk_cell BK159.out 2).trans rfl; have hfz13_0 := blk_frozen BK159.out 0; have hfz13_1 := blk_frozen BK159.out 1; have hfz13_2 := blk_frozen BK159.out 2; have hcz14_0 : w11.cell? ⟨gb157, 0, none⟩ = some (.string a0_0) := (blk_cell BK157.out 0).trans rfl; have hcz14_1 : w11.cell? ⟨gb157, 1, none⟩ = some (.slice A0_1 l0_1.length c0_1) := (blk_cell BK157.out 1).trans rfl; have hcz14_2 : w11.cell? ⟨gb157, 2, none⟩ = some (.int .i64 a0_2) := (blk_cell BK157.out 2).trans rfl; have hfz14_0 := blk_frozen BK157.out 0; have hfz14_1 := blk_frozen BK157.out 1; have hfz14_2 := blk_frozen BK157.out 2; have hcz15_0 : w11.cell? ⟨gb158, 0, none⟩ = some (.string (⟨#[]⟩ : ByteArray)) := (blk_cell BK158.out 0).trans rfl; have hcz15_1 : w11.cell? ⟨gb158, 1, none⟩ = some (.slice none 0 0) := (blk_cell BK158.out 1).trans rfl; have hcz15_2 : w11.cell? ⟨gb158, 2, none⟩ = some (.int .i64 0) := (blk_cell BK158.out 2).trans rfl; have hfz15_0 := blk_frozen BK158.out 0; have hfz15_1 := blk_frozen BK158.out 1; have hfz15_2 := blk_frozen BK158.out 2))
  refine bodyPost_ret (results_cell_row rfl _ _ gb158 49 #[.string a0_0, .slice Ao12 t160.length co12, .int .i64 a0_2] (0, 0) _ rfl (by (with_reducible repeat (first | refine blk_drewN ?_ _ | refine blk_drew ?_ | refine blk_alloc ?_ _)); refine blk_put (cs := #[.string a0_0, .slice Ao12 t160.length co12, .int .i64 0]) ?_ 2 _ rfl; (with_reducible repeat (first | refine blk_drewN ?_ _ | refine blk_drew ?_ | refine blk_alloc ?_ _)); refine blk_put (cs := #[.string a0_0, .slice none 0 0, .int .i64 0]) ?_ 1 _ rfl; (with_reducible repeat (first | refine blk_drewN ?_ _ | refine blk_drew ?_ | refine blk_alloc ?_ _)); refine blk_put (cs := #[.string (⟨#[]⟩ : ByteArray), .slice none 0 0, .int .i64 0]) ?_ 0 _ rfl; (with_reducible repeat (first | refine blk_drewN ?_ _ | refine blk_drew ?_ | refine blk_alloc ?_ _)); refine blk_far ?_ NB158_159.out _; (with_reducible repeat (first | refine blk_drewN ?_ _ | refine blk_drew ?_ | refine blk_alloc ?_ _)); refine blk_far ?_ NB158_159.out _; (with_reducible repeat (first | refine blk_drewN ?_ _ | refine blk_drew ?_ | refine blk_alloc ?_ _)); exact BK158.out) Try.underlying49 rfl (by kernel_rfl)) rfl ?_
  exact ⟨_, by first | rfl | (simp [errW_none, errW_some] <;> rfl) | (simp [*, errW_none, errW_some] <;> rfl), by (with_reducible repeat (first | apply Kd.R_alloc | apply Kd.R_drewN | apply Kd.R_drew)); exact Kd.R_mono (Kd.R_far (p := ⟨gb158, 2, none⟩) (Kd.R_far (p := ⟨gb158, 1, none⟩) (Kd.R_far (p := ⟨gb158, 0, none⟩) (Kd.R_far (p := ⟨gb159, 2, none⟩) (Kd.R_far (p := ⟨gb159, 1, none⟩) (Kd.R_types (Kd.R_types HO162.out BK159.out (by decide)) BK158.out (by decide)) (fun _ hk => hk.1.2) (.slice Ao12 t160.length co12)) (fun _ hk => hk.1.2) (.int .i64 a0_2)) (fun _ hk => hk.2) (.string a0_0)) (fun _ hk => hk.2) (.slice Ao12 t160.length co12)) (fun _ hk => hk.2) (.int .i64 a0_2)) (fun _ hk => trivial), by repeat (first | (with_reducible first | exact HB.out | apply below_alloc | apply pw_below_drewN | apply below_drew1 | refine below_set ?_ GE157.out | refine below_set ?_ GE158.out | refine below_set ?_ GE159.out) | exact HB.out)⟩

end Go.Proofs.Ytnjfmpmoaaahlaa.Q
end
section
namespace Go.Proofs.Ytnjfmpmoaaahlaa.Q
open Go.RowKit Go.Proofs.YtnjfmpmoaaahlaaW.PrintWords Go.Proofs.YtnjfmpmoaaahlaaW.PrintLast Go.Proofs.YtnjfmpmoaaahlaaW.PrintMore
attribute [local go_sem] max2_int min2_int max_two min_two max_three min_three max_four min_four   -- for this text's walks alone
set_option linter.unusedVariables false
set_option linter.unusedSimpArgs false

/-! ### laws_toBindS: function 8 -/
def laws_toBindS.l0 : Nat → List (S44) → List (S49) → Int → Option ((List (S49)))
  | 0, _, _, _ => none
  | k + 1, x0, x3, x4 => if x4 < (x0.length : Int) then (if 0 ≤ x4 then ((laws_toBind.f k ((rd_T44 x0 x4).f0) ((rd_T44 x0 x4).f1) ((rd_T44 x0 x4).f2)).bind fun bt167 => (if x4 < (x3.length : Int) then (laws_toBindS.l0 k x0 (x3.set (x4 : Int).toNat (⟨bt167.1, bt167.2.1, bt167.2.2⟩ : S49)) (wrap64 (x4 + 1))) else (none))) else (none)) else (some x3)
def laws_toBindS.f (k : Nat) (l0 : List (S44)) : Option ((List (S49))) := if 0 ≤ (l0.length : Int) then (if ((l0.length : Int) : Int).toNat ≤ 5864062014805 then (laws_toBindS.l0 k l0 (List.replicate ((l0.length : Int) : Int).toNat z49) 0) else (none)) else (none)
theorem laws_toBindS.mono_l : ∀ k, (∀ y0 y1 y2, LeO (laws_toBindS.l0 k y0 y1 y2) (laws_toBindS.l0 (k + 1) y0 y1 y2))
  | 0 => fun _ _ _ r h => by simp [laws_toBindS.l0] at h
  | k + 1 => by
    have ih0 := laws_toBindS.mono_l k
    · intro y0 y1 y2
      unfold laws_toBindS.l0
      repeat' first
      | (with_reducible exact ih0 _ _ _)
      | (with_reducible exact laws_toBind.mono _ _ _ _)
      | (with_reducible exact LeO.refl _)
      | (with_reducible exact LeO.none _)
      | (with_reducible refine LeO.ite ?_ ?_)
      | (with_reducible refine LeO.bind ?_ (fun _ => ?_))
      | exact ih0 _ _ _
      | exact laws_toBind.mono _ _ _ _
      | exact LeO.none _
      | refine LeO.ite ?_ ?_
      | refine LeO.bind ?_ (fun _ => ?_)
theorem laws_toBindS.mono : ∀ a0 k, LeO (laws_toBindS.f k a0) (laws_toBindS.f (k + 1) a0) := by
  intro a0 k
  have ih0 := laws_toBindS.mono_l k
  unfold laws_toBindS.f
  repeat' first
      | (with_reducible exact ih0 _ _ _)
      | (with_reducible exact laws_toBind.mono _ _ _ _)
      | (with_reducible exact LeO.refl _)
      | (with_reducible exact LeO.none _)
      | (with_reducible refine LeO.ite ?_ ?_)
      | (with_reducible refine LeO.bind ?_ (fun _ => ?_))
      | exact ih0 _ _ _
      | exact laws_toBind.mono _ _ _ _
      | exact LeO.none _
      | refine LeO.ite ?_ ?_
      | refine LeO.bind ?_ (fun _ => ?_)
set_option maxHeartbeats 8000000 in
set_option maxRecDepth 100000 in
theorem laws_toBindS.calls (k : Nat) (A0 : Option Addr) (c0 : Nat) (l0 : List (S44)) (r : List (S49)) (w : World) (hr0 : Kd.C k44 w A0 l0.length l0) (hc0 : l0.length ≤ c0) (h : laws_toBindS.f k l0 = some r) :
    Calls Try.prog 8 #[.slice A0 l0.length c0] w fun e w' => ∃ v0_ : Value, e = .returned (v0_) ∧ Kd.S k49 49 w' w.heap.size (fun _ => True) v0_ r ∧ Below w.heap.size w w' := by
  have hu44 := Try.underlying44
  have hu49 := Try.underlying49
  have HR0 := Aside0.mk hr0
  have HC0 := Aside0.mk hc0
  clear hr0 hc0
  have HB := Aside0.mk (Below.refl w.heap.size w)
  have H : (if 0 ≤ (l0.length : Int) then (if ((l0.length : Int) : Int).toNat ≤ 5864062014805 then (laws_toBindS.l0 k l0 (List.replicate ((l0.length : Int) : Int).toNat z49) 0) else (none)) else (none)) = some r := h
  clear h
  by_cases c2 : 0 ≤ (l0.length : Int)
  · rw [if_pos c2] at H
    have c2b0 := eq_true c2
    have c2b1 : decide (0 ≤ (l0.length : Int)) = true := decide_eq_true c2
    clear c2
    by_cases c3 : ((l0.length : Int) : Int).toNat ≤ 5864062014805
    · rw [if_pos c3] at H
      have c3b0 := eq_true c3
      have c3b1 : decide (((l0.length : Int) : Int).toNat ≤ 5864062014805) = true := decide_eq_true c3
      clear c3
      obtain ⟨y163, hy163⟩ : ∃ y_ : List (S49), y_ = (List.replicate ((l0.length : Int) : Int).toNat z49) := ⟨_, rfl⟩
      replace H : (laws_toBindS.l0 k l0 y163 0) = some r := by first | (rw [hy163]; with_reducible exact H) | (have H2_ := (Option.bind_some _ _).symm.trans H; rw [hy163]; with_reducible exact H2_) | (have H2_ := (Option.bind_some _ _).symm.trans H; with_reducible exact H2_) | with_reducible exact H | (rw [hy163]; exact H) | exact H
      have Ny163 := Aside0.mk hy163
      clear hy163
      have H' := Aside0.mk H
      clear H
      go_enter Try.func8, Try.ntmps8
      go_wp2_with (first | ((with_reducible refine gate_dst (N := 7) rfl ?_); refine Kd.S_make k49 _ 49 rfl (N := 7) rfl 31 _ _ rfl (l0.length : Int) rfl rfl Try.underlying31 (.agg #[(.string ⟨#[]⟩), (.slice none 0 0), (.int .i64 0)]) 48 info49 rfl (by decide) (by omega) z49 (ok := fun _ => True) (okp := fun _ => True) (k49_mkM _ _ _ z49 (Kd.R_nil _ _ _ _ _)) (fun _ hk => hk) trivial (of_decide_eq_true (by first | (with_reducible assumption) | assumption)) (Nat.le_trans (Nat.mul_le_mul_right _ (of_decide_eq_true (by first | (with_reducible assumption) | assumption) : (l0.length : Int).toNat ≤ 5864062014805)) (by omega)) (Below.refl _ _) (Nat.le_refl _) ?_; intro v164 w4 ho5 hb hg_ hnew_; clear hg_ hnew_; (first | rw [← Ny163.out] at ho5 | (simp only [Int.reduceToNat] at ho5; rw [← Ny163.out] at ho5)); have n0_ := Aside0.mk (Kd.S_lower ho5 (below_size (by repeat (first | (with_reducible first | exact HB.out | apply below_alloc | apply pw_below_drewN | apply below_drew1) | exact HB.out)))); have n1_ := Aside0.mk (below_step (by repeat (first | (with_reducible first | exact HB.out | apply below_alloc | apply pw_below_drewN | apply below_drew1) | exact HB.out)) hb); clear HB; have HO165 := n0_; have HB := n1_; clear n0_ n1_; clear hb ho5))
      go_loopg [4] k (fun kq v4 w' => ∃ (x3_1 : List (S49)) (x4_1 : Int), v4 = .int .i64 x4_1 ∧ Aside0 (laws_toBindS.l0 kq l0 x3_1 x4_1 = some r) ∧ Aside0 (kq ≤ k) ∧ Aside0 (Kd.S k49 49 w' w.heap.size (fun _ => True) v164 x3_1) ∧ Aside0 (Below w.heap.size w w'))
      case atStart => exact ⟨(y163), (0), (by first | rfl | (simp; done) | (simp [*]; done)), H', ⟨Nat.le_refl _⟩, ⟨by (with_reducible repeat (first | apply Kd.S_alloc | apply Kd.S_drewN | apply Kd.S_drew)); exact HO165.out⟩, ⟨by repeat (first | (with_reducible first | exact HB.out | apply below_alloc | apply pw_below_drewN | apply below_drew1) | exact HB.out)⟩⟩
      case round =>
        clear H'
        try clear c2
        try clear c2b0
        try clear c2b1
        try clear p2
        try clear c3
        try clear c3b0
        try clear c3b1
        obtain ⟨x3_1, x4_1, rfl, HA, HK1, HO_3, HB⟩ := hrel
        cases gk with
        | zero => exact absurd HA.out (by simp [laws_toBindS.l0])
        | succ k1 =>
          have H := HA.out
          clear HA
          simp only [laws_toBindS.l0] at H
          by_cases c6 : x4_1 < (l0.length : Int)
          · rw [if_pos c6] at H
            have c6b0 : decide (x4_1 < (l0.length : Int)) = true := decide_eq_true c6
            clear c6
            by_cases c7 : 0 ≤ x4_1
            · rw [if_pos c7] at H
              have c7b0 : decide (0 ≤ x4_1) = true := decide_eq_true c7
              clear c7
              replace H := Option.bind_eq_some_iff.mp H
              obtain ⟨⟨t167, t168, t171⟩, A80, H⟩ := H
              replace H : (if x4_1 < (x3_1.length : Int) then (laws_toBindS.l0 k1 l0 (x3_1.set (x4_1 : Int).toNat (⟨t167, t168, t171⟩ : S49)) (wrap64 (x4_1 + 1))) else (none)) = some r := H
              have A8 := Aside0.mk A80
              clear A80
              by_cases c9 : x4_1 < (x3_1.length : Int)
              · rw [if_pos c9] at H
                have c9b0 : decide (x4_1 < (x3_1.length : Int)) = true := decide_eq_true c9
                clear c9
                obtain ⟨y172, hy172⟩ : ∃ y_ : List (S49), y_ = (x3_1.set (x4_1 : Int).toNat (⟨t167, t168, t171⟩ : S49)) := ⟨_, rfl⟩
                replace H : (laws_toBindS.l0 k1 l0 y172 (wrap64 (x4_1 + 1))) = some r := by first | (rw [hy172]; with_reducible exact H) | (have H2_ := (Option.bind_some _ _).symm.trans H; rw [hy172]; with_reducible exact H2_) | (have H2_ := (Option.bind_some _ _).symm.trans H; with_reducible exact H2_) | with_reducible exact H | (rw [hy172]; exact H) | exact H
                have Ny172 := Aside0.mk hy172
                clear hy172
                have H' := Aside0.mk H
                clear H
                have p166 : 0 ≤ (x4_1 : Int) := of_decide_eq_true (by first | (with_reducible assumption) | assumption)
                have q166 : x4_1 < (l0.length : Int) := of_decide_eq_true (by first | (with_reducible assumption) | assumption)
                obtain ⟨ad166, A166_1, c166_1, e166, hx166_0, hx166_1, hx166_2, hl166_1, hi166_1⟩ := at_T44 HR0.out x4_1 p166 q166
                cases e166
                replace hx166_0 := (HB.out.cell (World.block_lt_of_cell? w _ hx166_0)).trans hx166_0
                replace hx166_1 := (HB.out.cell (World.block_lt_of_cell? w _ hx166_1)).trans hx166_1
                replace hx166_2 := (HB.out.cell (World.block_lt_of_cell? w _ hx166_2)).trans hx166_2
                have HR166_1 := Aside0.mk hi166_1
                have HC166_1 := Aside0.mk hl166_1
                clear hi166_1 hl166_1
                replace p166 := eq_true p166
                replace q166 := eq_true q166
                go_wp2_with (first | ((with_reducible refine gate_callee (f := 21) rfl ?_); refine goesL_ (some 20) rfl rfl Try.func21 (by kernel_rfl) rfl #[.agg #[.string ((rd_T44 l0 x4_1).f0), .slice A166_1 ((rd_T44 l0 x4_1).f1).length c166_1, .int .i64 ((rd_T44 l0 x4_1).f2)]] rfl (by (try simp only [List.map_toArray, List.map_cons, List.map_nil]); first | done | rfl | (simp only [List.length_drop, List.length_take]; rfl)) ?_; (with_reducible refine (laws_toBind.calls k1 ((rd_T44 l0 x4_1).f0) _ _ ((rd_T44 l0 x4_1).f1) ((rd_T44 l0 x4_1).f2) t167 t168 t171 _ ?side1 ?side2 A8.out).mono ?_); (case side1 => repeat (first | exact (Kd.C_below HR166_1.out HB.out) | (with_reducible refine Kd.C_alloc ?_ _) | (with_reducible refine Kd.C_drewN ?_ _) | (with_reducible refine Kd.C_drew ?_))); (case side2 => exact HC166_1.out); rintro e w11 ⟨v169, rfl, ho0, hb⟩; obtain ⟨E169, ec169, rfl⟩ : ∃ E ec, v169 = .slice E t168.length ec := Kd.R_slice ho0; refine ⟨_, rfl, ?_⟩; have n0_ := Aside0.mk (Kd.S_elder' (by (with_reducible repeat (first | apply Kd.S_alloc | apply Kd.S_drewN | apply Kd.S_drew)); exact HO_3.out) (Kd.R_base ho0) hb); have n1_ := Aside0.mk (Kd.R_lower ho0 (below_size (by repeat (first | (with_reducible first | exact HB.out | apply below_alloc | apply pw_below_drewN | apply below_drew1) | exact HB.out)))); have n2_ := Aside0.mk (below_step (by repeat (first | (with_reducible first | exact HB.out | apply below_alloc | apply pw_below_drewN | apply below_drew1) | exact HB.out)) hb); clear HO_3; clear HB; have HO_3 := n0_; have HO170 := n1_; have HB := n2_; clear n0_ n1_ n2_; (try clear hb); (try clear hb2); (try clear hk); (try clear hi); (try clear ho0); have p10 : 0 ≤ (x4_1 : Int) := of_decide_eq_true (by first | (with_reducible assumption) | assumption); have q10 : (x4_1 : Int) < ((x3_1.length : Int) : Int) := of_decide_eq_true (by first | (with_reducible assumption) | assumption); obtain ⟨go10, co10, eo10, gb10, gl10, cl10, HG10⟩ := Kd.S_form HO_3.out (by omega); (first | cases eo10 | (injection eo10 with ea_ en_ ec_; (first | subst ea_ | (injection ea_ with ea_; subst ea_)); subst ec_; clear en_)); have GB10 := Aside0.mk gb10; have GG10 := Aside0.mk HG10; clear gb10 gl10 HG10; obtain ⟨_, ce10, hcl10, hM10, hcc10, hfr10, _, _⟩ := Kd.S_elem HO_3.out z49 (x4_1 : Int) p10 q10; obtain ⟨ve10_1, rfl, ge10_1⟩ := k49_openM hM10; have hx10_0 : w11.cell? ⟨go10, (x4_1 : Int).toNat * 3, none⟩ = some (.string ((rd_T49 x3_1 x4_1).f0)) := hcc10 0 _ rfl; have hx10_1 : w11.cell? ⟨go10, (x4_1 : Int).toNat * 3 + 1, none⟩ = some (ve10_1) := hcc10 1 _ rfl; have hx10_2 : w11.cell? ⟨go10, (x4_1 : Int).toNat * 3 + 2, none⟩ = some (.int .i64 ((rd_T49 x3_1 x4_1).f2)) := hcc10 2 _ rfl; have hf10_0 : w11.frozen? ⟨go10, (x4_1 : Int).toNat * 3, none⟩ = false := hfr10 0; have hf10_1 : w11.frozen? ⟨go10, (x4_1 : Int).toNat * 3 + 1, none⟩ = false := hfr10 1; have hf10_2 : w11.frozen? ⟨go10, (x4_1 : Int).toNat * 3 + 2, none⟩ = false := hfr10 2; clear hcl10 hcc10 hfr10 hM10; replace p10 := eq_true p10; replace q10 := eq_true q10; have n_ := Aside0.mk (Kd.S_mono (ok' := (fun k_ => some k_ ≠ ((Value.slice E169 t168.length ec169) : Value).ownBlock)) HO_3.out (fun k_ hk => hk.2)); clear HO_3; have HO_3 := n_; clear n_; have HX12 := Aside0.mk (show Kd.S k49 49 w11 w.heap.size (fun k_ => ((fun _ => True)) k_ ∧ ¬ ((fun k_ => some k_ = ((Value.slice E169 t168.length ec169) : Value).ownBlock)) k_) (.slice (some ⟨go10, 0, none⟩) x3_1.length co10) x3_1 from (by (with_reducible repeat (first | apply Kd.S_alloc | apply Kd.S_drewN | apply Kd.S_drew)); exact Kd.S_mono HO_3.out (fun k_ hk => ⟨trivial, fun e_ => hk e_⟩))); obtain ⟨oki12, ce12, hcl12, hM12, hcc12, hfr12, hoki12, hH12⟩ := Kd.S_elem HX12.out z49 (x4_1 : Int) (of_decide_eq_true (by first | (with_reducible assumption) | assumption)) (by have h_ : (x4_1 : Int) < ((x3_1.length : Int) : Int) := of_decide_eq_true (by first | (with_reducible assumption) | assumption); first | exact h_ | (have e_ := (Kd.S_reads' HO_3.out).1; omega) | simpa using h_); obtain ⟨ve12_1, rfl, ge12_1⟩ := k49_openM hM12; have HP12 := Kd.S_seg hH12 (of_decide_eq_true (by first | (with_reducible assumption) | assumption)) (by have h_ : (x4_1 : Int) < ((x3_1.length : Int) : Int) := of_decide_eq_true (by first | (with_reducible assumption) | assumption); first | exact h_ | (have e_ := (Kd.S_reads' HO_3.out).1; omega) | simpa using h_) (seg := [.string t167, (Value.slice E169 t168.length ec169), .int .i64 t171]) (j := 0) (show 3 ≤ 3 from by decide) (x' := (⟨t167, t168, t171⟩ : S49)) (k49_mkM _ _ _ (⟨t167, t168, t171⟩ : S49) (Kd.R_mono (Kd.R_tight rfl (Kd.R_mono (ok' := fun k_ => ((fun _ => True)) k_ ∧ k_ ≠ go10) (Kd.R_apart' (HO170.out) (Kd.S_typed HO_3.out) (by decide)) (fun k_ hk => ⟨trivial, fun e_ => (hk.2) (by rw [e_]; rfl)⟩))) (fun _ h_ => Or.inr (h_)))) (fun _ hk => hk) (fun k_ hk_ => ((Kd.R_mono (ok' := fun k_ => ((fun _ => True)) k_ ∧ k_ ≠ go10) (Kd.R_apart' (HO170.out) (Kd.S_typed HO_3.out) (by decide)) (fun k_ hk => ⟨trivial, fun e_ => (hk.2) (by rw [e_]; rfl)⟩))).1 k_ hk_.symm); have hx12_0 := hcc12 0 _ rfl; (try simp only [show (k49).sz = 3 from rfl, Nat.mul_one, Nat.add_zero] at hx12_0); have hf12_0 := hfr12 0; (try simp only [show (k49).sz = 3 from rfl, Nat.mul_one, Nat.add_zero] at hf12_0); have hx12_1 := hcc12 1 _ rfl; (try simp only [show (k49).sz = 3 from rfl, Nat.mul_one, Nat.add_zero] at hx12_1); have hf12_1 := hfr12 1; (try simp only [show (k49).sz = 3 from rfl, Nat.mul_one, Nat.add_zero] at hf12_1); have hx12_2 := hcc12 2 _ rfl; (try simp only [show (k49).sz = 3 from rfl, Nat.mul_one, Nat.add_zero] at hx12_2); have hf12_2 := hfr12 2; (try simp only [show (k49).sz = 3 from rfl, Nat.mul_one, Nat.add_zero] at hf12_2); clear hcl12 hcc12 hfr12 hM12 hoki12 hH12) | ((with_reducible refine gate_store (t := 49) (p := 21) rfl ?_); refine store_event (t := 49) (p := 21) (v := ?vo_w13) (w1 := (((w11.setCell ⟨go10, (x4_1 : Int).toNat * 3, none⟩ (.string t167)).setCell ⟨go10, (x4_1 : Int).toNat * 3 + 1, none⟩ ((Value.slice E169 t168.length ec169))).setCell ⟨go10, (x4_1 : Int).toNat * 3 + 2, none⟩ (.int .i64 t171))) ?hg ?ho ?hn ?hr ?_; (case ho => rfl); (case hg => rfl); (case hn => rfl); (case hr => first | (go_simp; done) | (go_simp; rfl)); intro w13 hw; have hg : w11.grownBy w13 (some go10) := (by rw [hw]; exact HP12.2); have hp_ : Kd.S k49 49 w13 w.heap.size (fun _ => True) (.slice (some ⟨go10, 0, none⟩) x3_1.length co10) y172 := (by rw [hw, Ny172.out]; exact HP12.1); clear HP12; have n0_ := Aside0.mk (hp_); have n1_ := Aside0.mk ((by rw [hw]; exact below_set (below_set (below_set (HB.out) GB10.out) GB10.out) GB10.out : Below w.heap.size w w13)); clear HO_3; clear HB; clear HO170; have HO_3 := n0_; have HB := n1_; clear n0_ n1_; clear hg hw hp_))
                go_roundg k1
                case measure => have := HK1.out; omega
                case rel => exact ⟨(y172), (wrap64 (x4_1 + 1)), (by first | rfl | (simp; done) | (simp [*]; done)), H', ⟨by have := HK1.out; omega⟩, ⟨by (with_reducible repeat (first | apply Kd.S_alloc | apply Kd.S_drewN | apply Kd.S_drew)); exact HO_3.out⟩, ⟨by repeat (first | (with_reducible first | exact HB.out | apply below_alloc | apply pw_below_drewN | apply below_drew1) | exact HB.out)⟩⟩
              · rw [if_neg c9] at H
                exact absurd H (by simp)
            · rw [if_neg c7] at H
              exact absurd H (by simp)
          · rw [if_neg c6] at H
            have c6b0 : decide (x4_1 < (l0.length : Int)) = false := decide_eq_false c6
            clear c6
            obtain rfl := Option.some.inj H
            go_wp2
            go_ret
            exact ⟨_, by first | rfl | (simp [errW_none, errW_some] <;> rfl) | (simp [*, errW_none, errW_some] <;> rfl), by (with_reducible repeat (first | apply Kd.S_alloc | apply Kd.S_drewN | apply Kd.S_drew)); exact HO_3.out, by repeat (first | (with_reducible first | exact HB.out | apply below_alloc | apply pw_below_drewN | apply below_drew1) | exact HB.out)⟩
    · rw [if_neg c3] at H
      exact absurd H (by simp)
  · rw [if_neg c2] at H
    exact absurd H (by simp)

/-! ### laws_eqIntS: function 28 -/
def laws_eqIntS.l0 : Nat → List Int → List Int → Int → Option (Bool)
  | 0, _, _, _ => none
  | k + 1, x0, x1, x5 => if x5 < (x0.length : Int) then (if 0 ≤ x5 then (if x5 < (x1.length : Int) then (if (rd x0 x5) = (rd x1 x5) then (laws_eqIntS.l0 k x0 x1 (wrap64 (x5 + 1))) else (some false)) else (none)) else (none)) else (some true)
def laws_eqIntS.f (k : Nat) (l0 : List Int) (l1 : List Int) : Option (Bool) := if (l0.length : Int) = (l1.length : Int) then (laws_eqIntS.l0 k l0 l1 0) else (some false)
theorem laws_eqIntS.mono_l : ∀ k, (∀ y0 y1 y2, LeO (laws_eqIntS.l0 k y0 y1 y2) (laws_eqIntS.l0 (k + 1) y0 y1 y2))
  | 0 => fun _ _ _ r h => by simp [laws_eqIntS.l0] at h
  | k + 1 => by
    have ih0 := laws_eqIntS.mono_l k
    · intro y0 y1 y2
      unfold laws_eqIntS.l0
      repeat' first
      | (with_reducible exact ih0 _ _ _)
      | (with_reducible exact LeO.refl _)
      | (with_reducible exact LeO.none _)
      | (with_reducible refine LeO.ite ?_ ?_)
      | (with_reducible refine LeO.bind ?_ (fun _ => ?_))
      | exact ih0 _ _ _
      | exact LeO.none _
      | refine LeO.ite ?_ ?_
      | refine LeO.bind ?_ (fun _ => ?_)
theorem laws_eqIntS.mono : ∀ a0 a1 k, LeO (laws_eqIntS.f k a0 a1) (laws_eqIntS.f (k + 1) a0 a1) := by
  intro a0 a1 k
  have ih0 := laws_eqIntS.mono_l k
  unfold laws_eqIntS.f
  repeat' first
      | (with_reducible exact ih0 _ _ _)
      | (with_reducible exact LeO.refl _)
      | (with_reducible exact LeO.none _)
      | (with_reducible refine LeO.ite ?_ ?_)
      | (with_reducible refine LeO.bind ?_ (fun _ => ?_))
      | exact ih0 _ _ _
      | exact LeO.none _
      | refine LeO.ite ?_ ?_
      | refine LeO.bind ?_ (fun _ => ?_)
set_option maxHeartbeats 8000000 in
set_option maxRecDepth 100000 in
theorem laws_eqIntS.calls (k : Nat) (A0 : Option Addr) (c0 : Nat) (l0 : List Int) (A1 : Option Addr) (c1 : Nat) (l1 : List Int) (r : Bool) (w : World) (hr0 : Kd.C (Kd.int .i64) w A0 l0.length l0) (hc0 : l0.length ≤ c0) (hr1 : Kd.C (Kd.int .i64) w A1 l1.length l1) (hc1 : l1.length ≤ c1) (h : laws_eqIntS.f k l0 l1 = some r) :
    Calls Try.prog 28 #[.slice A0 l0.length c0, .slice A1 l1.length c1] w fun e w' => e = .returned (.bool r) ∧ Drawn0 w w' := by
  have HR0 := Aside0.mk hr0
  have HC0 := Aside0.mk hc0
  clear hr0 hc0
  have HR1 := Aside0.mk hr1
  have HC1 := Aside0.mk hc1
  clear hr1 hc1
  have H : (if (l0.length : Int) = (l1.length : Int) then (laws_eqIntS.l0 k l0 l1 0) else (some false)) = some r := h
  clear h
  by_cases c3 : (l0.length : Int) = (l1.length : Int)
  · rw [if_pos c3] at H
    have c3b0 : ((l0.length : Int) == (l1.length : Int)) = true := beq_iff_eq.mpr c3
    have c3b1 : ((l0.length : Int) != (l1.length : Int)) = false := bne_eq_false_iff_eq.mpr c3
    have c3b2 : (l0.length == l1.length) = true := by first | simpa using c3 | (simp at c3 ⊢; omega)
    clear c3
    have H' := Aside0.mk H
    clear H
    go_enter Try.func28, Try.ntmps28
    go_wp2
    repeat (go_quiet (fail); try go_wp2)
    go_loopg [5] k (fun kq v5 w' => ∃ (x5_1 : Int), v5 = .int .i64 x5_1 ∧ Aside0 (laws_eqIntS.l0 kq l0 l1 x5_1 = some r) ∧ Aside0 (kq ≤ k) ∧ Drawn0 w w')
    case atStart => exact ⟨(0), (by first | rfl | (simp; done) | (simp [*]; done)), H', ⟨Nat.le_refl _⟩, by repeat (first | exact Drawn0.refl _ | apply Drawn0.step)⟩
    case round =>
      clear H'
      try clear c1
      try clear c2
      try clear p2
      try clear c3
      try clear c3b0
      try clear c3b1
      try clear c3b2
      obtain ⟨x5_1, rfl, HA, HK1, ⟨m1, rfl⟩⟩ := hrel
      cases gk with
      | zero => exact absurd HA.out (by simp [laws_eqIntS.l0])
      | succ k1 =>
        have H := HA.out
        clear HA
        simp only [laws_eqIntS.l0] at H
        by_cases c4 : x5_1 < (l0.length : Int)
        · rw [if_pos c4] at H
          have c4b0 : decide (x5_1 < (l0.length : Int)) = true := decide_eq_true c4
          clear c4
          by_cases c5 : 0 ≤ x5_1
          · rw [if_pos c5] at H
            have c5b0 : decide (0 ≤ x5_1) = true := decide_eq_true c5
            clear c5
            by_cases c6 : x5_1 < (l1.length : Int)
            · rw [if_pos c6] at H
              have c6b0 : decide (x5_1 < (l1.length : Int)) = true := decide_eq_true c6
              clear c6
              by_cases c7 : (rd l0 x5_1) = (rd l1 x5_1)
              · rw [if_pos c7] at H
                have c7b0 : ((rd l0 x5_1) == (rd l1 x5_1)) = true := beq_iff_eq.mpr c7
                have c7b1 : ((rd l0 x5_1) != (rd l1 x5_1)) = false := bne_eq_false_iff_eq.mpr c7
                clear c7
                have H' := Aside0.mk H
                clear H
                have p188 : 0 ≤ (x5_1 : Int) := of_decide_eq_true (by first | (with_reducible assumption) | assumption)
                have q188 : x5_1 < (l0.length : Int) := of_decide_eq_true (by first | (with_reducible assumption) | assumption)
                obtain ⟨ad188, e188, hx188_0⟩ := Kd.at_int HR0.out x5_1 p188 q188
                cases e188
                replace p188 := eq_true p188
                replace q188 := eq_true q188
                have p189 : 0 ≤ (x5_1 : Int) := of_decide_eq_true (by first | (with_reducible assumption) | assumption)
                have q189 : x5_1 < (l1.length : Int) := of_decide_eq_true (by first | (with_reducible assumption) | assumption)
                obtain ⟨ad189, e189, hx189_0⟩ := Kd.at_int HR1.out x5_1 p189 q189
                cases e189
                replace p189 := eq_true p189
                replace q189 := eq_true q189
                go_wp2
                repeat (go_quiet (fail); try go_wp2)
                go_roundg k1
                case measure => have := HK1.out; omega
                case rel => exact ⟨(wrap64 (x5_1 + 1)), (by first | rfl | (simp; done) | (simp [*]; done)), H', ⟨by have := HK1.out; omega⟩, by repeat (first | exact Drawn0.refl _ | apply Drawn0.step)⟩
              · rw [if_neg c7] at H
                have c7b0 : ((rd l0 x5_1) == (rd l1 x5_1)) = false := beq_eq_false_iff_ne.mpr c7
                have c7b1 : ((rd l0 x5_1) != (rd l1 x5_1)) = true := bne_iff_ne.mpr c7
                obtain rfl := Option.some.inj H
                have p188 : 0 ≤ (x5_1 : Int) := of_decide_eq_true (by first | (with_reducible assumption) | assumption)
                have q188 : x5_1 < (l0.length : Int) := of_decide_eq_true (by first | (with_reducible assumption) | assumption)
                obtain ⟨ad188, e188, hx188_0⟩ := Kd.at_int HR0.out x5_1 p188 q188
                cases e188
                replace p188 := eq_true p188
                replace q188 := eq_true q188
                have p189 : 0 ≤ (x5_1 : Int) := of_decide_eq_true (by first | (with_reducible assumption) | assumption)
                have q189 : x5_1 < (l1.length : Int) := of_decide_eq_true (by first | (with_reducible assumption) | assumption)
                obtain ⟨ad189, e189, hx189_0⟩ := Kd.at_int HR1.out x5_1 p189 q189
                cases e189
                replace p189 := eq_true p189
                replace q189 := eq_true q189
                go_wp2
                repeat (go_quiet (fail); try go_wp2)
                go_ret
                exact ⟨by first | rfl | (simp; done) | (simp [*]; done), by repeat (first | exact Drawn0.refl _ | apply Drawn0.step)⟩
            · rw [if_neg c6] at H
              exact absurd H (by simp)
          · rw [if_neg c5] at H
            exact absurd H (by simp)
        · rw [if_neg c4] at H
          have c4b0 : decide (x5_1 < (l0.length : Int)) = false := decide_eq_false c4
          clear c4
          obtain rfl := Option.some.inj H
          go_wp2
          repeat (go_quiet (fail); try go_wp2)
          go_ret
          exact ⟨by first | rfl | (simp; done) | (simp [*]; done), by repeat (first | exact Drawn0.refl _ | apply Drawn0.step)⟩
  · rw [if_neg c3] at H
    have c3b0 : ((l0.length : Int) == (l1.length : Int)) = false := beq_eq_false_iff_ne.mpr c3
    have c3b1 : ((l0.length : Int) != (l1.length : Int)) = true := bne_iff_ne.mpr c3
    have c3b2 : (l0.length == l1.length) = false := by first | simpa using c3 | (simp at c3 ⊢; omega)
    obtain rfl := Option.some.inj H
    go_enter Try.func28, Try.ntmps28
    go_wp2
    repeat (go_quiet (fail); try go_wp2)
    go_ret
    exact ⟨by first | rfl | (simp; done) | (simp [*]; done), by repeat (first | exact Drawn0.refl _ | apply Drawn0.step)⟩

/-! ### laws_eqBind: function 27 -/
def laws_eqBind.f (k : Nat) (a0_0 : ByteArray) (l0_1 : List Int) (a0_2 : Int) (a1_0 : ByteArray) (l1_1 : List Int) (a1_2 : Int) : Option (Bool) := if a0_0.toList = a1_0.toList then ((laws_eqIntS.f k l0_1 l1_1).bind fun t192 => (if t192 = true then (if a0_2 = a1_2 then (some true) else (some false)) else (some false))) else (some false)
theorem laws_eqBind.mono : ∀ a0 a1 a2 a3 a4 a5 k, LeO (laws_eqBind.f k a0 a1 a2 a3 a4 a5) (laws_eqBind.f (k + 1) a0 a1 a2 a3 a4 a5) := by
  intro a0 a1 a2 a3 a4 a5 k
  unfold laws_eqBind.f
  repeat' first
      | (with_reducible exact laws_eqIntS.mono _ _ _)
      | (with_reducible exact LeO.refl _)
      | (with_reducible exact LeO.none _)
      | (with_reducible refine LeO.ite ?_ ?_)
      | (with_reducible refine LeO.bind ?_ (fun _ => ?_))
      | exact laws_eqIntS.mono _ _ _
      | exact LeO.none _
      | refine LeO.ite ?_ ?_
      | refine LeO.bind ?_ (fun _ => ?_)
set_option maxHeartbeats 8000000 in
set_option maxRecDepth 100000 in
theorem laws_eqBind.calls (k : Nat) (a0_0 : ByteArray) (A0_1 : Option Addr) (c0_1 : Nat) (l0_1 : List Int) (a0_2 : Int) (a1_0 : ByteArray) (A1_1 : Option Addr) (c1_1 : Nat) (l1_1 : List Int) (a1_2 : Int) (r : Bool) (w : World) (hr0_1 : Kd.C (Kd.int .i64) w A0_1 l0_1.length l0_1) (hc0_1 : l0_1.length ≤ c0_1) (hr1_1 : Kd.C (Kd.int .i64) w A1_1 l1_1.length l1_1) (hc1_1 : l1_1.length ≤ c1_1) (h : laws_eqBind.f k a0_0 l0_1 a0_2 a1_0 l1_1 a1_2 = some r) :
    Calls Try.prog 27 #[.agg #[.string a0_0, .slice A0_1 l0_1.length c0_1, .int .i64 a0_2], .agg #[.string a1_0, .slice A1_1 l1_1.length c1_1, .int .i64 a1_2]] w fun e w' => e = .returned (.bool r) ∧ Below w.heap.size w w' := by
  have hu49 := Try.underlying49
  have HR0_1 := Aside0.mk hr0_1
  have HC0_1 := Aside0.mk hc0_1
  clear hr0_1 hc0_1
  have HR1_1 := Aside0.mk hr1_1
  have HC1_1 := Aside0.mk hc1_1
  clear hr1_1 hc1_1
  have HB := Aside0.mk (Below.refl w.heap.size w)
  have H : (if a0_0.toList = a1_0.toList then ((laws_eqIntS.f k l0_1 l1_1).bind fun t192 => (if t192 = true then (if a0_2 = a1_2 then (some true) else (some false)) else (some false))) else (some false)) = some r := h
  clear h
  by_cases c3 : a0_0.toList = a1_0.toList
  · rw [if_pos c3] at H
    have c3b0 : (a0_0.toList == a1_0.toList) = true := beq_iff_eq.mpr c3
    have c3b1 : (a0_0.toList != a1_0.toList) = false := bne_eq_false_iff_eq.mpr c3
    clear c3
    replace H := Option.bind_eq_some_iff.mp H
    obtain ⟨t192, A40, H⟩ := H
    replace H : (if t192 = true then (if a0_2 = a1_2 then (some true) else (some false)) else (some false)) = some r := H
    have A4 := Aside0.mk A40
    clear A40
    by_cases c5 : t192 = true
    · subst c5
      have H1 : (if a0_2 = a1_2 then (some true) else (some false)) = some r := by rw [if_pos rfl] at H; exact H
      clear H
      have H := H1
      clear H1
      by_cases c6 : a0_2 = a1_2
      · rw [if_pos c6] at H
        have c6b0 : (a0_2 == a1_2) = true := beq_iff_eq.mpr c6
        have c6b1 : (a0_2 != a1_2) = false := bne_eq_false_iff_eq.mpr c6
        clear c6
        obtain rfl := Option.some.inj H
        go_enter Try.func27, Try.ntmps27
        go_wp2_with (first | ((with_reducible refine gate_dst (N := 2) rfl ?_); refine box_event ?hg (N := 2) ?hd (cs := #[.string a0_0, .slice A0_1 l0_1.length c0_1, .int .i64 a0_2]) (t := 49) ?hr ?_; (case hd => rfl); (case hg => rfl); (case hr => first | (go_simp; done) | (go_simp; rfl)); intro gb190 hg w7 hbox hb; have n0_ := Aside0.mk (below_step (by repeat (first | (with_reducible first | exact HB.out | apply below_alloc | apply pw_below_drewN | apply below_drew1) | exact HB.out)) hb); have n1_ := Aside0.mk (hbox); have n2_ := Aside0.mk ((by rw [hg]; exact (below_size (by repeat (first | (with_reducible first | exact HB.out | apply below_alloc | apply pw_below_drewN | apply below_drew1) | exact HB.out))) : w.heap.size ≤ gb190)); have n3_ := Aside0.mk ((by rw [hg]; exact (below_size (by repeat (first | (with_reducible first | exact HB.out | apply below_alloc | apply pw_below_drewN | apply below_drew1) | exact HB.out))) : w.heap.size ≤ gb190)); clear HB; have HB := n0_; have BK190 := n1_; have GW190 := n2_; have GE190 := n3_; clear n0_ n1_ n2_ n3_; clear hb hbox hg) | ((with_reducible refine gate_dst (N := 3) rfl ?_); refine box_event ?hg (N := 3) ?hd (cs := #[.string a1_0, .slice A1_1 l1_1.length c1_1, .int .i64 a1_2]) (t := 49) ?hr ?_; (case hd => rfl); (case hg => rfl); (case hr => first | (go_simp; done) | (go_simp; rfl)); intro gb191 hg w8 hbox hb; have n0_ := Aside0.mk (blk_below (g := gb190) (o := .cells #[.string a0_0, .slice A0_1 l0_1.length c0_1, .int .i64 a0_2] 49 (0, 0)) (by (with_reducible repeat (first | refine blk_drewN ?_ _ | refine blk_drew ?_ | refine blk_alloc ?_ _)); exact BK190.out) hb); have n1_ := Aside0.mk (below_step (by repeat (first | (with_reducible first | exact HB.out | apply below_alloc | apply pw_below_drewN | apply below_drew1 | refine below_set ?_ GE190.out) | exact HB.out)) hb); have n2_ := Aside0.mk (hbox); have n3_ := Aside0.mk ((by rw [hg]; exact (below_size (by repeat (first | (with_reducible first | exact HB.out | apply below_alloc | apply pw_below_drewN | apply below_drew1 | refine below_set ?_ GE190.out) | exact HB.out))) : w.heap.size ≤ gb191)); have n4_ := Aside0.mk ((by rw [hg]; exact (below_size (by repeat (first | (with_reducible first | exact HB.out | apply below_alloc | apply pw_below_drewN | apply below_drew1 | refine below_set ?_ GE190.out) | exact HB.out))) : w.heap.size ≤ gb191)); have n5_ := Aside0.mk ((by rw [hg]; exact Nat.ne_of_lt (blk_lt (g := gb190) (o := .cells #[.string a0_0, .slice A0_1 l0_1.length c0_1, .int .i64 a0_2] 49 (0, 0)) (by (with_reducible repeat (first | refine blk_drewN ?_ _ | refine blk_drew ?_ | refine blk_alloc ?_ _)); exact BK190.out)) : gb190 ≠ gb191)); have n6_ := Aside0.mk ((by rw [hg]; exact Nat.ne_of_gt (blk_lt (g := gb190) (o := .cells #[.string a0_0, .slice A0_1 l0_1.length c0_1, .int .i64 a0_2] 49 (0, 0)) (by (with_reducible repeat (first | refine blk_drewN ?_ _ | refine blk_drew ?_ | refine blk_alloc ?_ _)); exact BK190.out)) : gb191 ≠ gb190)); clear BK190; clear HB; have BK190 := n0_; have HB := n1_; have BK191 := n2_; have GW191 := n3_; have GE191 := n4_; have NB190_191 := n5_; have NB191_190 := n6_; clear n0_ n1_ n2_ n3_ n4_ n5_ n6_; clear hb hbox hg; have hnb9 := NB190_191.out; have hnc9 := NB191_190.out; have hcz10_0 : w8.cell? ⟨gb190, 0, none⟩ = some (.string a0_0) := (blk_cell BK190.out 0).trans rfl; have hcz10_1 : w8.cell? ⟨gb190, 1, none⟩ = some (.slice A0_1 l0_1.length c0_1) := (blk_cell BK190.out 1).trans rfl; have hcz10_2 : w8.cell? ⟨gb190, 2, none⟩ = some (.int .i64 a0_2) := (blk_cell BK190.out 2).trans rfl; have hfz10_0 := blk_frozen BK190.out 0; have hfz10_1 := blk_frozen BK190.out 1; have hfz10_2 := blk_frozen BK190.out 2; have hcz11_0 : w8.cell? ⟨gb191, 0, none⟩ = some (.string a1_0) := (blk_cell BK191.out 0).trans rfl; have hcz11_1 : w8.cell? ⟨gb191, 1, none⟩ = some (.slice A1_1 l1_1.length c1_1) := (blk_cell BK191.out 1).trans rfl; have hcz11_2 : w8.cell? ⟨gb191, 2, none⟩ = some (.int .i64 a1_2) := (blk_cell BK191.out 2).trans rfl; have hfz11_0 := blk_frozen BK191.out 0; have hfz11_1 := blk_frozen BK191.out 1; have hfz11_2 := blk_frozen BK191.out 2) | ((with_reducible refine gate_callee (f := 28) rfl ?_); refine goesL_ (some 14) rfl rfl Try.func28 (by kernel_rfl) rfl #[.slice A0_1 l0_1.length c0_1, .slice A1_1 l1_1.length c1_1] rfl (by (try simp only [List.map_toArray, List.map_cons, List.map_nil]); first | done | rfl | (simp only [List.length_drop, List.length_take]; rfl)) ?_; (with_reducible refine (laws_eqIntS.calls k _ _ l0_1 _ _ l1_1 true _ ?side1 ?side2 ?side3 ?side4 A4.out).mono ?_); (case side1 => repeat (first | exact (Kd.C_below HR0_1.out HB.out) | (with_reducible refine Kd.C_alloc ?_ _) | (with_reducible refine Kd.C_drewN ?_ _) | (with_reducible refine Kd.C_drew ?_))); (case side2 => exact HC0_1.out); (case side3 => repeat (first | exact (Kd.C_below HR1_1.out HB.out) | (with_reducible refine Kd.C_alloc ?_ _) | (with_reducible refine Kd.C_drewN ?_ _) | (with_reducible refine Kd.C_drew ?_))); (case side4 => exact HC1_1.out); rintro e w' ⟨rfl, ⟨nd, rfl⟩⟩; refine ⟨_, rfl, ?_⟩))
        go_ret
        exact ⟨by first | rfl | (simp [errW_none, errW_some] <;> rfl) | (simp [*, errW_none, errW_some] <;> rfl), by repeat (first | (with_reducible first | exact HB.out | apply below_alloc | apply pw_below_drewN | apply below_drew1 | refine below_set ?_ GE190.out | refine below_set ?_ GE191.out) | exact HB.out)⟩
      · rw [if_neg c6] at H
        have c6b0 : (a0_2 == a1_2) = false := beq_eq_false_iff_ne.mpr c6
        have c6b1 : (a0_2 != a1_2) = true := bne_iff_ne.mpr c6
        obtain rfl := Option.some.inj H
        go_enter Try.func27, Try.ntmps27
        go_wp2_with (first | ((with_reducible refine gate_dst (N := 2) rfl ?_); refine box_event ?hg (N := 2) ?hd (cs := #[.string a0_0, .slice A0_1 l0_1.length c0_1, .int .i64 a0_2]) (t := 49) ?hr ?_; (case hd => rfl); (case hg => rfl); (case hr => first | (go_simp; done) | (go_simp; rfl)); intro gb190 hg w12 hbox hb; have n0_ := Aside0.mk (below_step (by repeat (first | (with_reducible first | exact HB.out | apply below_alloc | apply pw_below_drewN | apply below_drew1) | exact HB.out)) hb); have n1_ := Aside0.mk (hbox); have n2_ := Aside0.mk ((by rw [hg]; exact (below_size (by repeat (first | (with_reducible first | exact HB.out | apply below_alloc | apply pw_below_drewN | apply below_drew1) | exact HB.out))) : w.heap.size ≤ gb190)); have n3_ := Aside0.mk ((by rw [hg]; exact (below_size (by repeat (first | (with_reducible first | exact HB.out | apply below_alloc | apply pw_below_drewN | apply below_drew1) | exact HB.out))) : w.heap.size ≤ gb190)); clear HB; have HB := n0_; have BK190 := n1_; have GW190 := n2_; have GE190 := n3_; clear n0_ n1_ n2_ n3_; clear hb hbox hg) | ((with_reducible refine gate_dst (N := 3) rfl ?_); refine box_event ?hg (N := 3) ?hd (cs := #[.string a1_0, .slice A1_1 l1_1.length c1_1, .int .i64 a1_2]) (t := 49) ?hr ?_; (case hd => rfl); (case hg => rfl); (case hr => first | (go_simp; done) | (go_simp; rfl)); intro gb191 hg w13 hbox hb; have n0_ := Aside0.mk (blk_below (g := gb190) (o := .cells #[.string a0_0, .slice A0_1 l0_1.length c0_1, .int .i64 a0_2] 49 (0, 0)) (by (with_reducible repeat (first | refine blk_drewN ?_ _ | refine blk_drew ?_ | refine blk_alloc ?_ _)); exact BK190.out) hb); have n1_ := Aside0.mk (below_step (by repeat (first | (with_reducible first | exact HB.out | apply below_alloc | apply pw_below_drewN | apply below_drew1 | refine below_set ?_ GE190.out) | exact HB.out)) hb); have n2_ := Aside0.mk (hbox); have n3_ := Aside0.mk ((by rw [hg]; exact (below_size (by repeat (first | (with_reducible first | exact HB.out | apply below_alloc | apply pw_below_drewN | apply below_drew1 | refine below_set ?_ GE190.out) | exact HB.out))) : w.heap.size ≤ gb191)); have n4_ := Aside0.mk ((by rw [hg]; exact (below_size (by repeat (first | (with_reducible first | exact HB.out | apply below_alloc | apply pw_below_drewN | apply below_drew1 | refine below_set ?_ GE190.out) | exact HB.out))) : w.heap.size ≤ gb191)); have n5_ := Aside0.mk ((by rw [hg]; exact Nat.ne_of_lt (blk_lt (g := gb190) (o := .cells #[.string a0_0, .slice A0_1 l0_1.length c0_1, .int .i64 a0_2] 49 (0, 0)) (by (with_reducible repeat (first | refine blk_drewN ?_ _ | refine blk_drew ?_ | refine blk_alloc ?_ _)); exact BK190.out)) : gb190 ≠ gb191)); have n6_ := Aside0.mk ((by rw [hg]; exact Nat.ne_of_gt (blk_lt (g := gb190) (o := .cells #[.string a0_0, .slice A0_1 l0_1.length c0_1, .int .i64 a0_2] 49 (0, 0)) (by (with_reducible repeat (first | refine blk_drewN ?_ _ | refine blk_drew ?_ | refine blk_alloc ?_ _)); exact BK190.out)) : gb191 ≠ gb190)); clear BK190; clear HB; have BK190 := n0_; have HB := n1_; have BK191 := n2_; have GW191 := n3_; have GE191 := n4_; have NB190_191 := n5_; have NB191_190 := n6_; clear n0_ n1_ n2_ n3_ n4_ n5_ n6_; clear hb hbox hg; have hnb14 := NB190_191.out; have hnc14 := NB191_190.out; have hcz15_0 : w13.cell? ⟨gb190, 0, none⟩ = some (.string a0_0) := (blk_cell BK190.out 0).trans rfl; have hcz15_1 : w13.cell? ⟨gb190, 1, none⟩ = some (.slice A0_1 l0_1.length c0_1) := (blk_cell BK190.out 1).trans rfl; have hcz15_2 : w13.cell? ⟨gb190, 2, none⟩ = some (.int .i64 a0_2) := (blk_cell BK190.out 2).trans rfl; have hfz15_0 := blk_frozen BK190.out 0; have hfz15_1 := blk_frozen BK190.out 1; have hfz15_2 := blk_frozen BK190.out 2; have hcz16_0 : w13.cell? ⟨gb191, 0, none⟩ = some (.string a1_0) := (blk_cell BK191.out 0).trans rfl; have hcz16_1 : w13.cell? ⟨gb191, 1, none⟩ = some (.slice A1_1 l1_1.length c1_1) := (blk_cell BK191.out 1).trans rfl; have hcz16_2 : w13.cell? ⟨gb191, 2, none⟩ = some (.int .i64 a1_2) := (blk_cell BK191.out 2).trans rfl; have hfz16_0 := blk_frozen BK191.out 0; have hfz16_1 := blk_frozen BK191.out 1; have hfz16_2 := blk_frozen BK191.out 2) | ((with_reducible refine gate_callee (f := 28) rfl ?_); refine goesL_ (some 14) rfl rfl Try.func28 (by kernel_rfl) rfl #[.slice A0_1 l0_1.length c0_1, .slice A1_1 l1_1.length c1_1] rfl (by (try simp only [List.map_toArray, List.map_cons, List.map_nil]); first | done | rfl | (simp only [List.length_drop, List.length_take]; rfl)) ?_; (with_reducible refine (laws_eqIntS.calls k _ _ l0_1 _ _ l1_1 true _ ?side1 ?side2 ?side3 ?side4 A4.out).mono ?_); (case side1 => repeat (first | exact (Kd.C_below HR0_1.out HB.out) | (with_reducible refine Kd.C_alloc ?_ _) | (with_reducible refine Kd.C_drewN ?_ _) | (with_reducible refine Kd.C_drew ?_))); (case side2 => exact HC0_1.out); (case side3 => repeat (first | exact (Kd.C_below HR1_1.out HB.out) | (with_reducible refine Kd.C_alloc ?_ _) | (with_reducible refine Kd.C_drewN ?_ _) | (with_reducible refine Kd.C_drew ?_))); (case side4 => exact HC1_1.out); rintro e w' ⟨rfl, ⟨nd, rfl⟩⟩; refine ⟨_, rfl, ?_⟩))
        go_ret
        exact ⟨by first | rfl | (simp [errW_none, errW_some] <;> rfl) | (simp [*, errW_none, errW_some] <;> rfl), by repeat (first | (with_reducible first | exact HB.out | apply below_alloc | apply pw_below_drewN | apply below_drew1 | refine below_set ?_ GE190.out | refine below_set ?_ GE191.out) | exact HB.out)⟩
    · replace c5 := Bool.eq_false_iff.mpr c5
      subst c5
      have H1 : (some false) = some r := by rw [if_neg (show ¬ (false = true) by decide)] at H; exact H
      clear H
      have H := H1
      clear H1
      obtain rfl := Option.some.inj H
      go_enter Try.func27, Try.ntmps27
      go_wp2_with (first | ((with_reducible refine gate_dst (N := 2) rfl ?_); refine box_event ?hg (N := 2) ?hd (cs := #[.string a0_0, .slice A0_1 l0_1.length c0_1, .int .i64 a0_2]) (t := 49) ?hr ?_; (case hd => rfl); (case hg => rfl); (case hr => first | (go_simp; done) | (go_simp; rfl)); intro gb190 hg w17 hbox hb; have n0_ := Aside0.mk (below_step (by repeat (first | (with_reducible first | exact HB.out | apply below_alloc | apply pw_below_drewN | apply below_drew1) | exact HB.out)) hb); have n1_ := Aside0.mk (hbox); have n2_ := Aside0.mk ((by rw [hg]; exact (below_size (by repeat (first | (with_reducible first | exact HB.out | apply below_alloc | apply pw_below_drewN | apply below_drew1) | exact HB.out))) : w.heap.size ≤ gb190)); have n3_ := Aside0.mk ((by rw [hg]; exact (below_size (by repeat (first | (with_reducible first | exact HB.out | apply below_alloc | apply pw_below_drewN | apply below_drew1) | exact HB.out))) : w.heap.size ≤ gb190)); clear HB; have HB := n0_; have BK190 := n1_; have GW190 := n2_; have GE190 := n3_; clear n0_ n1_ n2_ n3_; clear hb hbox hg) | ((with_reducible refine gate_dst (N := 3) rfl ?_); refine box_event ?hg (N := 3) ?hd (cs := #[.string a1_0, .slice A1_1 l1_1.length c1_1, .int .i64 a1_2]) (t := 49) ?hr ?_; (case hd => rfl); (case hg => rfl); (case hr => first | (go_simp; done) | (go_simp; rfl)); intro gb191 hg w18 hbox hb; have n0_ := Aside0.mk (blk_below (g := gb190) (o := .cells #[.string a0_0, .slice A0_1 l0_1.length c0_1, .int .i64 a0_2] 49 (0, 0)) (by (with_reducible repeat (first | refine blk_drewN ?_ _ | refine blk_drew ?_ | refine blk_alloc ?_ _)); exact BK190.out) hb); have n1_ := Aside0.mk (below_step (by repeat (first | (with_reducible first | exact HB.out | apply below_alloc | apply pw_below_drewN | apply below_drew1 | refine below_set ?_ GE190.out) | exact HB.out)) hb); have n2_ := Aside0.mk (hbox); have n3_ := Aside0.mk ((by rw [hg]; exact (below_size (by repeat (first | (with_reducible first | exact HB.out | apply below_alloc | apply pw_below_drewN | apply below_drew1 | refine below_set ?_ GE190.out) | exact HB.out))) : w.heap.size ≤ gb191)); have n4_ := Aside0.mk ((by rw [hg]; exact (below_size (by repeat (first | (with_reducible first | exact HB.out | apply below_alloc | apply pw_below_drewN | apply below_drew1 | refine below_set ?_ GE190.out) | exact HB.out))) : w.heap.size ≤ gb191)); have n5_ := Aside0.mk ((by rw [hg]; exact Nat.ne_of_lt (blk_lt (g := gb190) (o := .cells #[.string a0_0, .slice A0_1 l0_1.length c0_1, .int .i64 a0_2] 49 (0, 0)) (by (with_reducible repeat (first | refine blk_drewN ?_ _ | refine blk_drew ?_ | refine blk_alloc ?_ _)); exact BK190.out)) : gb190 ≠ gb191)); have n6_ := Aside0.mk ((by rw [hg]; exact Nat.ne_of_gt (blk_lt (g := gb190) (o := .cells #[.string a0_0, .slice A0_1 l0_1.length c0_1, .int .i64 a0_2] 49 (0, 0)) (by (with_reducible repeat (first | refine blk_drewN ?_ _ | refine blk_drew ?_ | refine blk_alloc ?_ _)); exact BK190.out)) : gb191 ≠ gb190)); clear BK190; clear HB; have BK190 := n0_; have HB := n1_; have BK191 := n2_; have GW191 := n3_; have GE191 := n4_; have NB190_191 := n5_; have NB191_190 := n6_; clear n0_ n1_ n2_ n3_ n4_ n5_ n6_; clear hb hbox hg; have hnb19 := NB190_191.out; have hnc19 := NB191_190.out; have hcz20_0 : w18.cell? ⟨gb190, 0, none⟩ = some (.string a0_0) := (blk_cell BK190.out 0).trans rfl; have hcz20_1 : w18.cell? ⟨gb190, 1, none⟩ = some (.slice A0_1 l0_1.length c0_1) := (blk_cell BK190.out 1).trans rfl; have hcz20_2 : w18.cell? ⟨gb190, 2, none⟩ = some (.int .i64 a0_2) := (blk_cell BK190.out 2).trans rfl; have hfz20_0 := blk_frozen BK190.out 0; have hfz20_1 := blk_frozen BK190.out 1; have hfz20_2 := blk_frozen BK190.out 2; have hcz21_0 : w18.cell? ⟨gb191, 0, none⟩ = some (.string a1_0) := (blk_cell BK191.out 0).trans rfl; have hcz21_1 : w18.cell? ⟨gb191, 1, none⟩ = some (.slice A1_1 l1_1.length c1_1) := (blk_cell BK191.out 1).trans rfl; have hcz21_2 : w18.cell? ⟨gb191, 2, none⟩ = some (.int .i64 a1_2) := (blk_cell BK191.out 2).trans rfl; have hfz21_0 := blk_frozen BK191.out 0; have hfz21_1 := blk_frozen BK191.out 1; have hfz21_2 := blk_frozen BK191.out 2) | ((with_reducible refine gate_callee (f := 28) rfl ?_); refine goesL_ (some 14) rfl rfl Try.func28 (by kernel_rfl) rfl #[.slice A0_1 l0_1.length c0_1, .slice A1_1 l1_1.length c1_1] rfl (by (try simp only [List.map_toArray, List.map_cons, List.map_nil]); first | done | rfl | (simp only [List.length_drop, List.length_take]; rfl)) ?_; (with_reducible refine (laws_eqIntS.calls k _ _ l0_1 _ _ l1_1 false _ ?side1 ?side2 ?side3 ?side4 A4.out).mono ?_); (case side1 => repeat (first | exact (Kd.C_below HR0_1.out HB.out) | (with_reducible refine Kd.C_alloc ?_ _) | (with_reducible refine Kd.C_drewN ?_ _) | (with_reducible refine Kd.C_drew ?_))); (case side2 => exact HC0_1.out); (case side3 => repeat (first | exact (Kd.C_below HR1_1.out HB.out) | (with_reducible refine Kd.C_alloc ?_ _) | (with_reducible refine Kd.C_drewN ?_ _) | (with_reducible refine Kd.C_drew ?_))); (case side4 => exact HC1_1.out); rintro e w' ⟨rfl, ⟨nd, rfl⟩⟩; refine ⟨_, rfl, ?_⟩))
      go_ret
      exact ⟨by first | rfl | (simp [errW_none, errW_some] <;> rfl) | (simp [*, errW_none, errW_some] <;> rfl), by repeat (first | (with_reducible first | exact HB.out | apply below_alloc | apply pw_below_drewN | apply below_drew1 | refine below_set ?_ GE190.out | refine below_set ?_ GE191.out) | exact HB.out)⟩
  · rw [if_neg c3] at H
    have c3b0 : (a0_0.toList == a1_0.toList) = false := beq_eq_false_iff_ne.mpr c3
    have c3b1 : (a0_0.toList != a1_0.toList) = true := bne_iff_ne.mpr c3
    obtain rfl := Option.some.inj H
    go_enter Try.func27, Try.ntmps27
    go_wp2_with (first | ((with_reducible refine gate_dst (N := 2) rfl ?_); refine box_event ?hg (N := 2) ?hd (cs := #[.string a0_0, .slice A0_1 l0_1.length c0_1, .int .i64 a0_2]) (t := 49) ?hr ?_; (case hd => rfl); (case hg => rfl); (case hr => first | (go_simp; done) | (go_simp; rfl)); intro gb190 hg w22 hbox hb; have n0_ := Aside0.mk (below_step (by repeat (first | (with_reducible first | exact HB.out | apply below_alloc | apply pw_below_drewN | apply below_drew1) | exact HB.out)) hb); have n1_ := Aside0.mk (hbox); have n2_ := Aside0.mk ((by rw [hg]; exact (below_size (by repeat (first | (with_reducible first | exact HB.out | apply below_alloc | apply pw_below_drewN | apply below_drew1) | exact HB.out))) : w.heap.size ≤ gb190)); have n3_ := Aside0.mk ((by rw [hg]; exact (below_size (by repeat (first | (with_reducible first | exact HB.out | apply below_alloc | apply pw_below_drewN | apply below_drew1) | exact HB.out))) : w.heap.size ≤ gb190)); clear HB; have HB := n0_; have BK190 := n1_; have GW190 := n2_; have GE190 := n3_; clear n0_ n1_ n2_ n3_; clear hb hbox hg) | ((with_reducible refine gate_dst (N := 3) rfl ?_); refine box_event ?hg (N := 3) ?hd (cs := #[.string a1_0, .slice A1_1 l1_1.length c1_1, .int .i64 a1_2]) (t := 49) ?hr ?_; (case hd => rfl); (case hg => rfl); (case hr => first | (go_simp; done) | (go_simp; rfl)); intro gb191 hg w23 hbox hb; have n0_ := Aside0.mk (blk_below (g := gb190) (o := .cells #[.string a0_0, .slice A0_1 l0_1.length c0_1, .int .i64 a0_2] 49 (0, 0)) (by (with_reducible repeat (first | refine blk_drewN ?_ _ | refine blk_drew ?_ | refine blk_alloc ?_ _)); exact BK190.out) hb); have n1_ := Aside0.mk (below_step (by repeat (first | (with_reducible first | exact HB.out | apply below_alloc | apply pw_below_drewN | apply below_drew1 | refine below_set ?_ GE190.out) | exact HB.out)) hb); have n2_ := Aside0.mk (hbox); have n3_ := Aside0.mk ((by rw [hg]; exact (below_size (by repeat (first | (with_reducible first | exact HB.out | apply below_alloc | apply pw_below_drewN | apply below_drew1 | refine below_set ?_ GE190.out) | exact HB.out))) : w.heap.size ≤ gb191)); have n4_ := Aside0.mk ((by rw [hg]; exact (below_size (by repeat (first | (with_reducible first | exact HB.out | apply below_alloc | apply pw_below_drewN | apply below_drew1 | refine below_set ?_ GE190.out) | exact HB.out))) : w.heap.size ≤ gb191)); have n5_ := Aside0.mk ((by rw [hg]; exact Nat.ne_of_lt (blk_lt (g := gb190) (o := .cells #[.string a0_0, .slice A0_1 l0_1.length c0_1, .int .i64 a0_2] 49 (0, 0)) (by (with_reducible repeat (first | refine blk_drewN ?_ _ | refine blk_drew ?_ | refine blk_alloc ?_ _)); exact BK190.out)) : gb190 ≠ gb191)); have n6_ := Aside0.mk ((by rw [hg]; exact Nat.ne_of_gt (blk_lt (g := gb190) (o := .cells #[.string a0_0, .slice A0_1 l0_1.length c0_1, .int .i64 a0_2] 49 (0, 0)) (by (with_reducible repeat (first | refine blk_drewN ?_ _ | refine blk_drew ?_ | refine blk_alloc ?_ _)); exact BK190.out)) : gb191 ≠ gb190)); clear BK190; clear HB; have BK190 := n0_; have HB := n1_; have BK191 := n2_; have GW191 := n3_; have GE191 := n4_; have NB190_191 := n5_; have NB191_190 := n6_; clear n0_ n1_ n2_ n3_ n4_ n5_ n6_; clear hb hbox hg; have hnb24 := NB190_191.out; have hnc24 := NB191_190.out; have hcz25_0 : w23.cell? ⟨gb190, 0, none⟩ = some (.string a0_0) := (blk_cell BK190.out 0).trans rfl; have hcz25_1 : w23.cell? ⟨gb190, 1, none⟩ = some (.slice A0_1 l0_1.length c0_1) := (blk_cell BK190.out 1).trans rfl; have hcz25_2 : w23.cell? ⟨gb190, 2, none⟩ = some (.int .i64 a0_2) := (blk_cell BK190.out 2).trans rfl; have hfz25_0 := blk_frozen BK190.out 0; have hfz25_1 := blk_frozen BK190.out 1; have hfz25_2 := blk_frozen BK190.out 2; have hcz26_0 : w23.cell? ⟨gb191, 0, none⟩ = some (.string a1_0) := (blk_cell BK191.out 0).trans rfl; have hcz26_1 : w23.cell? ⟨gb191, 1, none⟩ = some (.slice A1_1 l1_1.length c1_1) := (blk_cell BK191.out 1).trans rfl; have hcz26_2 : w23.cell? ⟨gb191, 2, none⟩ = some (.int .i64 a1_2) := (blk_cell BK191.out 2).trans rfl; have hfz26_0 := blk_frozen BK191.out 0; have hfz26_1 := blk_frozen BK191.out 1; have hfz26_2 := blk_frozen BK191.out 2))
    go_ret
    exact ⟨by first | rfl | (simp [errW_none, errW_some] <;> rfl) | (simp [*, errW_none, errW_some] <;> rfl), by repeat (first | (with_reducible first | exact HB.out | apply below_alloc | apply pw_below_drewN | apply below_drew1 | refine below_set ?_ GE190.out | refine below_set ?_ GE191.out) | exact HB.out)⟩

/-! ### laws_eqBindS: function 11 -/
def laws_eqBindS.l0 : Nat → List (S49) → List (S49) → Int → Option (Bool)
  | 0, _, _, _ => none
  | k + 1, x0, x1, x5 => if x5 < (x0.length : Int) then (if 0 ≤ x5 then (if x5 < (x1.length : Int) then ((laws_eqBind.f k ((rd_T49 x0 x5).f0) ((rd_T49 x0 x5).f1) ((rd_T49 x0 x5).f2) ((rd_T49 x1 x5).f0) ((rd_T49 x1 x5).f1) ((rd_T49 x1 x5).f2)).bind fun t195 => (if t195 = true then (laws_eqBindS.l0 k x0 x1 (wrap64 (x5 + 1))) else (some false))) else (none)) else (none)) else (some true)
def laws_eqBindS.f (k : Nat) (l0 : List (S49)) (l1 : List (S49)) : Option (Bool) := if (l0.length : Int) = (l1.length : Int) then (laws_eqBindS.l0 k l0 l1 0) else (some false)
theorem laws_eqBindS.mono_l : ∀ k, (∀ y0 y1 y2, LeO (laws_eqBindS.l0 k y0 y1 y2) (laws_eqBindS.l0 (k + 1) y0 y1 y2))
  | 0 => fun _ _ _ r h => by simp [laws_eqBindS.l0] at h
  | k + 1 => by
    have ih0 := laws_eqBindS.mono_l k
    · intro y0 y1 y2
      unfold laws_eqBindS.l0
      repeat' first
      | (with_reducible exact ih0 _ _ _)
      | (with_reducible exact laws_eqBind.mono _ _ _ _ _ _ _)
      | (with_reducible exact LeO.refl _)
      | (with_reducible exact LeO.none _)
      | (with_reducible refine LeO.ite ?_ ?_)
      | (with_reducible refine LeO.bind ?_ (fun _ => ?_))
      | exact ih0 _ _ _
      | exact laws_eqBind.mono _ _ _ _ _ _ _
      | exact LeO.none _
      | refine LeO.ite ?_ ?_
      | refine LeO.bind ?_ (fun _ => ?_)
theorem laws_eqBindS.mono : ∀ a0 a1 k, LeO (laws_eqBindS.f k a0 a1) (laws_eqBindS.f (k + 1) a0 a1) := by
  intro a0 a1 k
  have ih0 := laws_eqBindS.mono_l k
  unfold laws_eqBindS.f
  repeat' first
      | (with_reducible exact ih0 _ _ _)
      | (with_reducible exact laws_eqBind.mono _ _ _ _ _ _ _)
      | (with_reducible exact LeO.refl _)
      | (with_reducible exact LeO.none _)
      | (with_reducible refine LeO.ite ?_ ?_)
      | (with_reducible refine LeO.bind ?_ (fun _ => ?_))
      | exact ih0 _ _ _
      | exact laws_eqBind.mono _ _ _ _ _ _ _
      | exact LeO.none _
      | refine LeO.ite ?_ ?_
      | refine LeO.bind ?_ (fun _ => ?_)
def laws_eqBindS.T6 : Bool × List (List Nat × List Nat) := (true, [([], []), ([], []), ([0, 1], [0, 1]), ([2], [2]), ([], []), ([], []), ([4, 5], [4, 5]), ([6], [6]), ([3, 7], [3, 7]), ([8], [8])])
def laws_eqBindS.B6 : List Nat := [0, 0, 3, 7, 0, 0, 48, 112, 255, 511]
theorem laws_eqBindS.tab6 : rtab .any (opsOf Try.f11 6) = laws_eqBindS.T6 := by kernel_rfl
theorem laws_eqBindS.bits6 : waitsOk laws_eqBindS.T6.2 laws_eqBindS.B6 = true := by kernel_rfl
set_option maxHeartbeats 8000000 in
set_option maxRecDepth 100000 in
theorem laws_eqBindS.calls (k : Nat) (A0 : Option Addr) (c0 : Nat) (l0 : List (S49)) (A1 : Option Addr) (c1 : Nat) (l1 : List (S49)) (r : Bool) (w : World) (hr0 : Kd.C k49 w A0 l0.length l0) (hc0 : l0.length ≤ c0) (hr1 : Kd.C k49 w A1 l1.length l1) (hc1 : l1.length ≤ c1) (h : laws_eqBindS.f k l0 l1 = some r) :
    Calls Try.prog 11 #[.slice A0 l0.length c0, .slice A1 l1.length c1] w fun e w' => e = .returned (.bool r) ∧ Below w.heap.size w w' := by
  have hu49 := Try.underlying49
  have HR0 := Aside0.mk hr0
  have HC0 := Aside0.mk hc0
  clear hr0 hc0
  have HR1 := Aside0.mk hr1
  have HC1 := Aside0.mk hc1
  clear hr1 hc1
  have HB := Aside0.mk (Below.refl w.heap.size w)
  have H : (if (l0.length : Int) = (l1.length : Int) then (laws_eqBindS.l0 k l0 l1 0) else (some false)) = some r := h
  clear h
  by_cases c3 : (l0.length : Int) = (l1.length : Int)
  · rw [if_pos c3] at H
    have c3b0 : ((l0.length : Int) == (l1.length : Int)) = true := beq_iff_eq.mpr c3
    have c3b1 : ((l0.length : Int) != (l1.length : Int)) = false := bne_eq_false_iff_eq.mpr c3
    have c3b2 : (l0.length == l1.length) = true := by first | simpa using c3 | (simp at c3 ⊢; omega)
    clear c3
    have H' := Aside0.mk H
    clear H
    go_enter Try.func11, Try.ntmps11
    go_wp2
    go_loopg [5] k (fun kq v5 w' => ∃ (x5_1 : Int), v5 = .int .i64 x5_1 ∧ Aside0 (laws_eqBindS.l0 kq l0 l1 x5_1 = some r) ∧ Aside0 (kq ≤ k) ∧ Aside0 (Below w.heap.size w w'))
    case atStart => exact ⟨(0), (by first | rfl | (simp; done) | (simp [*]; done)), H', ⟨Nat.le_refl _⟩, ⟨by repeat (first | (with_reducible first | exact HB.out | apply below_alloc | apply pw_below_drewN | apply below_drew1) | exact HB.out)⟩⟩
    case round =>
      clear H'
      try clear c1
      try clear p2
      try clear c3
      try clear c3b0
      try clear c3b1
      try clear c3b2
      obtain ⟨x5_1, rfl, HA, HK1, HB⟩ := hrel
      cases gk with
      | zero => exact absurd HA.out (by simp [laws_eqBindS.l0])
      | succ k1 =>
        have H := HA.out
        clear HA
        simp only [laws_eqBindS.l0] at H
        by_cases c4 : x5_1 < (l0.length : Int)
        · rw [if_pos c4] at H
          have c4b0 : decide (x5_1 < (l0.length : Int)) = true := decide_eq_true c4
          clear c4
          by_cases c5 : 0 ≤ x5_1
          · rw [if_pos c5] at H
            have c5b0 : decide (0 ≤ x5_1) = true := decide_eq_true c5
            clear c5
            by_cases c6 : x5_1 < (l1.length : Int)
            · rw [if_pos c6] at H
              have c6b0 : decide (x5_1 < (l1.length : Int)) = true := decide_eq_true c6
              clear c6
              replace H := Option.bind_eq_some_iff.mp H
              obtain ⟨t195, A70, H⟩ := H
              replace H : (if t195 = true then (laws_eqBindS.l0 k1 l0 l1 (wrap64 (x5_1 + 1))) else (some false)) = some r := H
              have A7 := Aside0.mk A70
              clear A70
              by_cases c8 : t195 = true
              · subst c8
                have H1 : (laws_eqBindS.l0 k1 l0 l1 (wrap64 (x5_1 + 1))) = some r := by rw [if_pos rfl] at H; exact H
                clear H
                have H := H1
                clear H1
                have H' := Aside0.mk H
                clear H
                try go_wp2
                have n0_ := Aside0.mk (below_drew1 HB.out)
                clear HB
                have HB := n0_
                clear n0_
                have p193 : 0 ≤ (x5_1 : Int) := of_decide_eq_true (by first | (with_reducible assumption) | assumption)
                have q193 : x5_1 < (l0.length : Int) := of_decide_eq_true (by first | (with_reducible assumption) | assumption)
                obtain ⟨ad193, A193_1, c193_1, e193, hx193_0, hx193_1, hx193_2, hl193_1, hi193_1⟩ := at_T49 HR0.out x5_1 p193 q193
                have hw193_2 := hx193_2
                have hw193_1 := hx193_1
                have hw193_0 := hx193_0
                cases e193
                replace hx193_0 := (HB.out.cell (World.block_lt_of_cell? w _ hx193_0)).trans hx193_0
                replace hx193_1 := (HB.out.cell (World.block_lt_of_cell? w _ hx193_1)).trans hx193_1
                replace hx193_2 := (HB.out.cell (World.block_lt_of_cell? w _ hx193_2)).trans hx193_2
                have HR193_1 := Aside0.mk hi193_1
                have HC193_1 := Aside0.mk hl193_1
                clear hi193_1 hl193_1
                replace p193 := eq_true p193
                replace q193 := eq_true q193
                have p194 : 0 ≤ (x5_1 : Int) := of_decide_eq_true (by first | (with_reducible assumption) | assumption)
                have q194 : x5_1 < (l1.length : Int) := of_decide_eq_true (by first | (with_reducible assumption) | assumption)
                obtain ⟨ad194, A194_1, c194_1, e194, hx194_0, hx194_1, hx194_2, hl194_1, hi194_1⟩ := at_T49 HR1.out x5_1 p194 q194
                have hw194_2 := hx194_2
                have hw194_1 := hx194_1
                have hw194_0 := hx194_0
                cases e194
                replace hx194_0 := (HB.out.cell (World.block_lt_of_cell? w _ hx194_0)).trans hx194_0
                replace hx194_1 := (HB.out.cell (World.block_lt_of_cell? w _ hx194_1)).trans hx194_1
                replace hx194_2 := (HB.out.cell (World.block_lt_of_cell? w _ hx194_2)).trans hx194_2
                have HR194_1 := Aside0.mk hi194_1
                have HC194_1 := Aside0.mk hl194_1
                clear hi194_1 hl194_1
                replace p194 := eq_true p194
                replace q194 := eq_true q194
                refine start_ (n := 10) (S := fun w' => w'.cell? (ad193.add ((x5_1).toNat * 3)) = some (.string ((rd_T49 l0 x5_1).f0)) ∧ w'.cell? ⟨(ad193.add ((x5_1).toNat * 3)).block, (ad193.add ((x5_1).toNat * 3)).off + 1, none⟩ = some (.slice A193_1 ((rd_T49 l0 x5_1).f1).length c193_1) ∧ w'.cell? ⟨(ad193.add ((x5_1).toNat * 3)).block, (ad193.add ((x5_1).toNat * 3)).off + 2, none⟩ = some (.int .i64 ((rd_T49 l0 x5_1).f2)) ∧ w'.cell? (ad194.add ((x5_1).toNat * 3)) = some (.string ((rd_T49 l1 x5_1).f0)) ∧ w'.cell? ⟨(ad194.add ((x5_1).toNat * 3)).block, (ad194.add ((x5_1).toNat * 3)).off + 1, none⟩ = some (.slice A194_1 ((rd_T49 l1 x5_1).f1).length c194_1) ∧ w'.cell? ⟨(ad194.add ((x5_1).toNat * 3)).block, (ad194.add ((x5_1).toNat * 3)).off + 2, none⟩ = some (.int .i64 ((rd_T49 l1 x5_1).f2))) (ds := []) #[false, false, false, false, false, false, false, false, false, false] (by kernel_rfl) rfl rfl ⟨((HB.out.cell (World.block_lt_of_cell? w _ hw193_0)).trans hw193_0), ((HB.out.cell (World.block_lt_of_cell? w _ hw193_1)).trans hw193_1), ((HB.out.cell (World.block_lt_of_cell? w _ hw193_2)).trans hw193_2), ((HB.out.cell (World.block_lt_of_cell? w _ hw194_0)).trans hw194_0), ((HB.out.cell (World.block_lt_of_cell? w _ hw194_1)).trans hw194_1), ((HB.out.cell (World.block_lt_of_cell? w _ hw194_2)).trans hw194_2)⟩ (fun hHeld => ?_); refine with_tabW laws_eqBindS.tab6 laws_eqBindS.bits6 (fun HT_ HW_ => ?_)
                generalize wr.drew = w9 at HB HR193_1 HR194_1 hx193_0 hx193_1 hx193_2 hx194_0 hx194_1 hx194_2 hHeld ⊢
                refine pure_ (i := 0) (N := some 17) (v := ?_) (a' := ?_) #[true, false, false, false, false, false, false, false, false, false] rfl rfl (any_of HT_.out (by kernel_rfl)) (fun _ _ _ h => h) (Or.inl ⟨by rfl, ?_⟩) ?_ ?_
                rotate_left
                · intro w'
                  go_simp
                  with_reducible rfl
                rotate_left
                · simp only [Act.put, List.setIfInBounds_toArray, List.set_cons_zero, List.set_cons_succ, i64_w, i32_w]
                  rfl
                refine pure_ (i := 1) (N := some 18) (v := ?_) (a' := ?_) #[true, true, false, false, false, false, false, false, false, false] rfl rfl (any_of HT_.out (by kernel_rfl)) (fun _ _ _ h => h) (Or.inl ⟨by rfl, ?_⟩) ?_ ?_
                rotate_left
                · intro w'
                  go_simp
                  with_reducible rfl
                rotate_left
                · simp only [Act.put, List.setIfInBounds_toArray, List.set_cons_zero, List.set_cons_succ, i64_w, i32_w]
                  rfl
                refine pure_ (i := 2) (N := some 19) (v := ?_) (a' := ?_) #[true, true, true, false, false, false, false, false, false, false] rfl rfl (any_of HT_.out (by kernel_rfl)) (fun _ _ _ h => h) (Or.inl ⟨by rfl, ?_⟩) ?_ ?_
                rotate_left
                · intro w'
                  go_simp
                  with_reducible rfl
                rotate_left
                · simp only [Act.put, List.setIfInBounds_toArray, List.set_cons_zero, List.set_cons_succ, i64_w, i32_w]
                  rfl
                refine pure_ (i := 4) (N := some 21) (v := ?_) (a' := ?_) #[true, true, true, false, true, false, false, false, false, false] rfl rfl (any_of HT_.out (by kernel_rfl)) (fun _ _ _ h => h) (Or.inl ⟨by rfl, ?_⟩) ?_ ?_
                rotate_left
                · intro w'
                  go_simp
                  with_reducible rfl
                rotate_left
                · simp only [Act.put, List.setIfInBounds_toArray, List.set_cons_zero, List.set_cons_succ, i64_w, i32_w]
                  rfl
                refine pure_ (i := 5) (N := some 22) (v := ?_) (a' := ?_) #[true, true, true, false, true, true, false, false, false, false] rfl rfl (any_of HT_.out (by kernel_rfl)) (fun _ _ _ h => h) (Or.inl ⟨by rfl, ?_⟩) ?_ ?_
                rotate_left
                · intro w'
                  go_simp
                  with_reducible rfl
                rotate_left
                · simp only [Act.put, List.setIfInBounds_toArray, List.set_cons_zero, List.set_cons_succ, i64_w, i32_w]
                  rfl
                refine pure_ (i := 6) (N := some 23) (v := ?_) (a' := ?_) #[true, true, true, false, true, true, true, false, false, false] rfl rfl (any_of HT_.out (by kernel_rfl)) (fun _ _ _ h => h) (Or.inl ⟨by rfl, ?_⟩) ?_ ?_
                rotate_left
                · intro w'
                  go_simp
                  with_reducible rfl
                rotate_left
                · simp only [Act.put, List.setIfInBounds_toArray, List.set_cons_zero, List.set_cons_succ, i64_w, i32_w]
                  rfl
                refine take_ (i := 3) (N := some 20) (v := ?_) (a' := ?_) #[true, true, true, true, true, true, true, false, false, false] rfl rfl (take_ofW HT_.out HW_.out (by kernel_rfl)) (fun _ _ _ h => h) (Or.inl ⟨by rfl, ?_⟩) hHeld ?_ ?_
                rotate_left
                · rintro w' ⟨s0, s1, s2, s3, s4, s5⟩
                  go_simp
                  with_reducible rfl
                rotate_left
                · simp only [Act.put, List.setIfInBounds_toArray, List.set_cons_zero, List.set_cons_succ, i64_w, i32_w]
                  rfl
                refine take_ (i := 7) (N := some 24) (v := ?_) (a' := ?_) #[true, true, true, true, true, true, true, true, false, false] rfl rfl (take_ofW HT_.out HW_.out (by kernel_rfl)) (fun _ _ _ h => h) (Or.inl ⟨by rfl, ?_⟩) hHeld ?_ ?_
                rotate_left
                · rintro w' ⟨s0, s1, s2, s3, s4, s5⟩
                  go_simp
                  with_reducible rfl
                rotate_left
                · simp only [Act.put, List.setIfInBounds_toArray, List.set_cons_zero, List.set_cons_succ, i64_w, i32_w]
                  rfl
                refine one_ (i := 8) (N := some 25) #[true, true, true, true, true, true, true, true, true, false] rfl rfl (one_of HT_.out (by kernel_rfl)) (by decide) (fun K hK => ?_)
                refine goes_ Try.func27 (by kernel_rfl) rfl #[.agg #[.string ((rd_T49 l0 x5_1).f0), .slice A193_1 ((rd_T49 l0 x5_1).f1).length c193_1, .int .i64 ((rd_T49 l0 x5_1).f2)], .agg #[.string ((rd_T49 l1 x5_1).f0), .slice A194_1 ((rd_T49 l1 x5_1).f1).length c194_1, .int .i64 ((rd_T49 l1 x5_1).f2)]] (by rfl) rfl rfl (by (try simp only [List.map_toArray, List.map_cons, List.map_nil]); first | done | rfl | (simp only [List.length_drop, List.length_take]; rfl)) ?_
                with_reducible refine (laws_eqBind.calls k1 ((rd_T49 l0 x5_1).f0) _ _ ((rd_T49 l0 x5_1).f1) ((rd_T49 l0 x5_1).f2) ((rd_T49 l1 x5_1).f0) _ _ ((rd_T49 l1 x5_1).f1) ((rd_T49 l1 x5_1).f2) true _ ?side1 ?side2 ?side3 ?side4 A7.out).mono ?_
                (case side1 => repeat (first | exact (Kd.C_below HR193_1.out HB.out) | (with_reducible refine Kd.C_alloc ?_ _) | (with_reducible refine Kd.C_drewN ?_ _) | (with_reducible refine Kd.C_drew ?_)))
                (case side2 => exact HC193_1.out)
                (case side3 => repeat (first | exact (Kd.C_below HR194_1.out HB.out) | (with_reducible refine Kd.C_alloc ?_ _) | (with_reducible refine Kd.C_drewN ?_ _) | (with_reducible refine Kd.C_drew ?_)))
                (case side4 => exact HC194_1.out)
                rintro e w10 ⟨rfl, hb⟩
                refine ⟨_, rfl, ?_⟩
                have n0_ := Aside0.mk (below_step (by repeat (first | (with_reducible first | exact HB.out | apply below_alloc | apply pw_below_drewN | apply below_drew1) | exact HB.out)) hb)
                clear HB
                have HB := n0_
                clear n0_
                (try clear hb)
                (try clear hb2)
                (try clear hk)
                (try clear hi)
                refine hK.out _ _ ⟨((HB.out.cell (World.block_lt_of_cell? w _ hw193_0)).trans hw193_0), ((HB.out.cell (World.block_lt_of_cell? w _ hw193_1)).trans hw193_1), ((HB.out.cell (World.block_lt_of_cell? w _ hw193_2)).trans hw193_2), ((HB.out.cell (World.block_lt_of_cell? w _ hw194_0)).trans hw194_0), ((HB.out.cell (World.block_lt_of_cell? w _ hw194_1)).trans hw194_1), ((HB.out.cell (World.block_lt_of_cell? w _ hw194_2)).trans hw194_2)⟩ (fun hHeld => ?_)
                clear hK K
                refine norm_ (a' := ?_) ?_ ?_
                rotate_left
                · show Act.put _ (some 25) _ = _
                  simp only [Act.put, List.setIfInBounds_toArray, List.set_cons_zero, List.set_cons_succ, i64_w, i32_w]
                  rfl
                refine pure_ (i := 9) (N := some 26) (v := ?_) (a' := ?_) #[true, true, true, true, true, true, true, true, true, true] rfl rfl (any_of HT_.out (by kernel_rfl)) (fun _ _ _ h => h) (Or.inl ⟨by rfl, ?_⟩) ?_ ?_
                rotate_left
                · intro w'
                  go_simp
                  with_reducible rfl
                rotate_left
                · simp only [Act.put, List.setIfInBounds_toArray, List.set_cons_zero, List.set_cons_succ, i64_w, i32_w]
                  rfl
                refine done_ (done_of HT_.out (by kernel_rfl)) ?_
                try go_wp2
                go_roundg k1
                case measure => have := HK1.out; omega
                case rel => exact ⟨(wrap64 (x5_1 + 1)), (by first | rfl | (simp; done) | (simp [*]; done)), H', ⟨by have := HK1.out; omega⟩, ⟨by repeat (first | (with_reducible first | exact HB.out | apply below_alloc | apply pw_below_drewN | apply below_drew1) | exact HB.out)⟩⟩
              · replace c8 := Bool.eq_false_iff.mpr c8
                subst c8
                have H1 : (some false) = some r := by rw [if_neg (show ¬ (false = true) by decide)] at H; exact H
                clear H
                have H := H1
                clear H1
                obtain rfl := Option.some.inj H
                try go_wp2
                have n0_ := Aside0.mk (below_drew1 HB.out)
                clear HB
                have HB := n0_
                clear n0_
                have p193 : 0 ≤ (x5_1 : Int) := of_decide_eq_true (by first | (with_reducible assumption) | assumption)
                have q193 : x5_1 < (l0.length : Int) := of_decide_eq_true (by first | (with_reducible assumption) | assumption)
                obtain ⟨ad193, A193_1, c193_1, e193, hx193_0, hx193_1, hx193_2, hl193_1, hi193_1⟩ := at_T49 HR0.out x5_1 p193 q193
                have hw193_2 := hx193_2
                have hw193_1 := hx193_1
                have hw193_0 := hx193_0
                cases e193
                replace hx193_0 := (HB.out.cell (World.block_lt_of_cell? w _ hx193_0)).trans hx193_0
                replace hx193_1 := (HB.out.cell (World.block_lt_of_cell? w _ hx193_1)).trans hx193_1
                replace hx193_2 := (HB.out.cell (World.block_lt_of_cell? w _ hx193_2)).trans hx193_2
                have HR193_1 := Aside0.mk hi193_1
                have HC193_1 := Aside0.mk hl193_1
                clear hi193_1 hl193_1
                replace p193 := eq_true p193
                replace q193 := eq_true q193
                have p194 : 0 ≤ (x5_1 : Int) := of_decide_eq_true (by first | (with_reducible assumption) | assumption)
                have q194 : x5_1 < (l1.length : Int) := of_decide_eq_true (by first | (with_reducible assumption) | assumption)
                obtain ⟨ad194, A194_1, c194_1, e194, hx194_0, hx194_1, hx194_2, hl194_1, hi194_1⟩ := at_T49 HR1.out x5_1 p194 q194
                have hw194_2 := hx194_2
                have hw194_1 := hx194_1
                have hw194_0 := hx194_0
                cases e194
                replace hx194_0 := (HB.out.cell (World.block_lt_of_cell? w _ hx194_0)).trans hx194_0
                replace hx194_1 := (HB.out.cell (World.block_lt_of_cell? w _ hx194_1)).trans hx194_1
                replace hx194_2 := (HB.out.cell (World.block_lt_of_cell? w _ hx194_2)).trans hx194_2
                have HR194_1 := Aside0.mk hi194_1
                have HC194_1 := Aside0.mk hl194_1
                clear hi194_1 hl194_1
                replace p194 := eq_true p194
                replace q194 := eq_true q194
                refine start_ (n := 10) (S := fun w' => w'.cell? (ad193.add ((x5_1).toNat * 3)) = some (.string ((rd_T49 l0 x5_1).f0)) ∧ w'.cell? ⟨(ad193.add ((x5_1).toNat * 3)).block, (ad193.add ((x5_1).toNat * 3)).off + 1, none⟩ = some (.slice A193_1 ((rd_T49 l0 x5_1).f1).length c193_1) ∧ w'.cell? ⟨(ad193.add ((x5_1).toNat * 3)).block, (ad193.add ((x5_1).toNat * 3)).off + 2, none⟩ = some (.int .i64 ((rd_T49 l0 x5_1).f2)) ∧ w'.cell? (ad194.add ((x5_1).toNat * 3)) = some (.string ((rd_T49 l1 x5_1).f0)) ∧ w'.cell? ⟨(ad194.add ((x5_1).toNat * 3)).block, (ad194.add ((x5_1).toNat * 3)).off + 1, none⟩ = some (.slice A194_1 ((rd_T49 l1 x5_1).f1).length c194_1) ∧ w'.cell? ⟨(ad194.add ((x5_1).toNat * 3)).block, (ad194.add ((x5_1).toNat * 3)).off + 2, none⟩ = some (.int .i64 ((rd_T49 l1 x5_1).f2))) (ds := []) #[false, false, false, false, false, false, false, false, false, false] (by kernel_rfl) rfl rfl ⟨((HB.out.cell (World.block_lt_of_cell? w _ hw193_0)).trans hw193_0), ((HB.out.cell (World.block_lt_of_cell? w _ hw193_1)).trans hw193_1), ((HB.out.cell (World.block_lt_of_cell? w _ hw193_2)).trans hw193_2), ((HB.out.cell (World.block_lt_of_cell? w _ hw194_0)).trans hw194_0), ((HB.out.cell (World.block_lt_of_cell? w _ hw194_1)).trans hw194_1), ((HB.out.cell (World.block_lt_of_cell? w _ hw194_2)).trans hw194_2)⟩ (fun hHeld => ?_); refine with_tabW laws_eqBindS.tab6 laws_eqBindS.bits6 (fun HT_ HW_ => ?_)
                generalize wr.drew = w11 at HB HR193_1 HR194_1 hx193_0 hx193_1 hx193_2 hx194_0 hx194_1 hx194_2 hHeld ⊢
                refine pure_ (i := 0) (N := some 17) (v := ?_) (a' := ?_) #[true, false, false, false, false, false, false, false, false, false] rfl rfl (any_of HT_.out (by kernel_rfl)) (fun _ _ _ h => h) (Or.inl ⟨by rfl, ?_⟩) ?_ ?_
                rotate_left
                · intro w'
                  go_simp
                  with_reducible rfl
                rotate_left
                · simp only [Act.put, List.setIfInBounds_toArray, List.set_cons_zero, List.set_cons_succ, i64_w, i32_w]
                  rfl
                refine pure_ (i := 1) (N := some 18) (v := ?_) (a' := ?_) #[true, true, false, false, false, false, false, false, false, false] rfl rfl (any_of HT_.out (by kernel_rfl)) (fun _ _ _ h => h) (Or.inl ⟨by rfl, ?_⟩) ?_ ?_
                rotate_left
                · intro w'
                  go_simp
                  with_reducible rfl
                rotate_left
                · simp only [Act.put, List.setIfInBounds_toArray, List.set_cons_zero, List.set_cons_succ, i64_w, i32_w]
                  rfl
                refine pure_ (i := 2) (N := some 19) (v := ?_) (a' := ?_) #[true, true, true, false, false, false, false, false, false, false] rfl rfl (any_of HT_.out (by kernel_rfl)) (fun _ _ _ h => h) (Or.inl ⟨by rfl, ?_⟩) ?_ ?_
                rotate_left
                · intro w'
                  go_simp
                  with_reducible rfl
                rotate_left
                · simp only [Act.put, List.setIfInBounds_toArray, List.set_cons_zero, List.set_cons_succ, i64_w, i32_w]
                  rfl
                refine pure_ (i := 4) (N := some 21) (v := ?_) (a' := ?_) #[true, true, true, false, true, false, false, false, false, false] rfl rfl (any_of HT_.out (by kernel_rfl)) (fun _ _ _ h => h) (Or.inl ⟨by rfl, ?_⟩) ?_ ?_
                rotate_left
                · intro w'
                  go_simp
                  with_reducible rfl
                rotate_left
                · simp only [Act.put, List.setIfInBounds_toArray, List.set_cons_zero, List.set_cons_succ, i64_w, i32_w]
                  rfl
                refine pure_ (i := 5) (N := some 22) (v := ?_) (a' := ?_) #[true, true, true, false, true, true, false, false, false, false] rfl rfl (any_of HT_.out (by kernel_rfl)) (fun _ _ _ h => h) (Or.inl ⟨by rfl, ?_⟩) ?_ ?_
                rotate_left
                · intro w'
                  go_simp
                  with_reducible rfl
                rotate_left
                · simp only [Act.put, List.setIfInBounds_toArray, List.set_cons_zero, List.set_cons_succ, i64_w, i32_w]
                  rfl
                refine pure_ (i := 6) (N := some 23) (v := ?_) (a' := ?_) #[true, true, true, false, true, true, true, false, false, false] rfl rfl (any_of HT_.out (by kernel_rfl)) (fun _ _ _ h => h) (Or.inl ⟨by rfl, ?_⟩) ?_ ?_
                rotate_left
                · intro w'
                  go_simp
                  with_reducible rfl
                rotate_left
                · simp only [Act.put, List.setIfInBounds_toArray, List.set_cons_zero, List.set_cons_succ, i64_w, i32_w]
                  rfl
                refine take_ (i := 3) (N := some 20) (v := ?_) (a' := ?_) #[true, true, true, true, true, true, true, false, false, false] rfl rfl (take_ofW HT_.out HW_.out (by kernel_rfl)) (fun _ _ _ h => h) (Or.inl ⟨by rfl, ?_⟩) hHeld ?_ ?_
                rotate_left
                · rintro w' ⟨s0, s1, s2, s3, s4, s5⟩
                  go_simp
                  with_reducible rfl
                rotate_left
                · simp only [Act.put, List.setIfInBounds_toArray, List.set_cons_zero, List.set_cons_succ, i64_w, i32_w]
                  rfl
                refine take_ (i := 7) (N := some 24) (v := ?_) (a' := ?_) #[true, true, true, true, true, true, true, true, false, false] rfl rfl (take_ofW HT_.out HW_.out (by kernel_rfl)) (fun _ _ _ h => h) (Or.inl ⟨by rfl, ?_⟩) hHeld ?_ ?_
                rotate_left
                · rintro w' ⟨s0, s1, s2, s3, s4, s5⟩
                  go_simp
                  with_reducible rfl
                rotate_left
                · simp only [Act.put, List.setIfInBounds_toArray, List.set_cons_zero, List.set_cons_succ, i64_w, i32_w]
                  rfl
                refine one_ (i := 8) (N := some 25) #[true, true, true, true, true, true, true, true, true, false] rfl rfl (one_of HT_.out (by kernel_rfl)) (by decide) (fun K hK => ?_)
                refine goes_ Try.func27 (by kernel_rfl) rfl #[.agg #[.string ((rd_T49 l0 x5_1).f0), .slice A193_1 ((rd_T49 l0 x5_1).f1).length c193_1, .int .i64 ((rd_T49 l0 x5_1).f2)], .agg #[.string ((rd_T49 l1 x5_1).f0), .slice A194_1 ((rd_T49 l1 x5_1).f1).length c194_1, .int .i64 ((rd_T49 l1 x5_1).f2)]] (by rfl) rfl rfl (by (try simp only [List.map_toArray, List.map_cons, List.map_nil]); first | done | rfl | (simp only [List.length_drop, List.length_take]; rfl)) ?_
                with_reducible refine (laws_eqBind.calls k1 ((rd_T49 l0 x5_1).f0) _ _ ((rd_T49 l0 x5_1).f1) ((rd_T49 l0 x5_1).f2) ((rd_T49 l1 x5_1).f0) _ _ ((rd_T49 l1 x5_1).f1) ((rd_T49 l1 x5_1).f2) false _ ?side1 ?side2 ?side3 ?side4 A7.out).mono ?_
                (case side1 => repeat (first | exact (Kd.C_below HR193_1.out HB.out) | (with_reducible refine Kd.C_alloc ?_ _) | (with_reducible refine Kd.C_drewN ?_ _) | (with_reducible refine Kd.C_drew ?_)))
                (case side2 => exact HC193_1.out)
                (case side3 => repeat (first | exact (Kd.C_below HR194_1.out HB.out) | (with_reducible refine Kd.C_alloc ?_ _) | (with_reducible refine Kd.C_drewN ?_ _) | (with_reducible refine Kd.C_drew ?_)))
                (case side4 => exact HC194_1.out)
                rintro e w12 ⟨rfl, hb⟩
                refine ⟨_, rfl, ?_⟩
                have n0_ := Aside0.mk (below_step (by repeat (first | (with_reducible first | exact HB.out | apply below_alloc | apply pw_below_drewN | apply below_drew1) | exact HB.out)) hb)
                clear HB
                have HB := n0_
                clear n0_
                (try clear hb)
                (try clear hb2)
                (try clear hk)
                (try clear hi)
                refine hK.out _ _ ⟨((HB.out.cell (World.block_lt_of_cell? w _ hw193_0)).trans hw193_0), ((HB.out.cell (World.block_lt_of_cell? w _ hw193_1)).trans hw193_1), ((HB.out.cell (World.block_lt_of_cell? w _ hw193_2)).trans hw193_2), ((HB.out.cell (World.block_lt_of_cell? w _ hw194_0)).trans hw194_0), ((HB.out.cell (World.block_lt_of_cell? w _ hw194_1)).trans hw194_1), ((HB.out.cell (World.block_lt_of_cell? w _ hw194_2)).trans hw194_2)⟩ (fun hHeld => ?_)
                clear hK K
                refine norm_ (a' := ?_) ?_ ?_
                rotate_left
                · show Act.put _ (some 25) _ = _
                  simp only [Act.put, List.setIfInBounds_toArray, List.set_cons_zero, List.set_cons_succ, i64_w, i32_w]
                  rfl
                refine pure_ (i := 9) (N := some 26) (v := ?_) (a' := ?_) #[true, true, true, true, true, true, true, true, true, true] rfl rfl (any_of HT_.out (by kernel_rfl)) (fun _ _ _ h => h) (Or.inl ⟨by rfl, ?_⟩) ?_ ?_
                rotate_left
                · intro w'
                  go_simp
                  with_reducible rfl
                rotate_left
                · simp only [Act.put, List.setIfInBounds_toArray, List.set_cons_zero, List.set_cons_succ, i64_w, i32_w]
                  rfl
                refine done_ (done_of HT_.out (by kernel_rfl)) ?_
                try go_wp2
                go_ret
                exact ⟨by first | rfl | (simp [errW_none, errW_some] <;> rfl) | (simp [*, errW_none, errW_some] <;> rfl), by repeat (first | (with_reducible first | exact HB.out | apply below_alloc | apply pw_below_drewN | apply below_drew1) | exact HB.out)⟩
            · rw [if_neg c6] at H
              exact absurd H (by simp)
          · rw [if_neg c5] at H
            exact absurd H (by simp)
        · rw [if_neg c4] at H
          have c4b0 : decide (x5_1 < (l0.length : Int)) = false := decide_eq_false c4
          clear c4
          obtain rfl := Option.some.inj H
          go_wp2
          go_ret
          exact ⟨by first | rfl | (simp [errW_none, errW_some] <;> rfl) | (simp [*, errW_none, errW_some] <;> rfl), by repeat (first | (with_reducible first | exact HB.out | apply below_alloc | apply pw_below_drewN | apply below_drew1) | exact HB.out)⟩
  · rw [if_neg c3] at H
    have c3b0 : ((l0.length : Int) == (l1.length : Int)) = false := beq_eq_false_iff_ne.mpr c3
    have c3b1 : ((l0.length : Int) != (l1.length : Int)) = true := bne_iff_ne.mpr c3
    have c3b2 : (l0.length == l1.length) = false := by first | simpa using c3 | (simp at c3 ⊢; omega)
    obtain rfl := Option.some.inj H
    go_enter Try.func11, Try.ntmps11
    go_wp2
    go_ret
    exact ⟨by first | rfl | (simp [errW_none, errW_some] <;> rfl) | (simp [*, errW_none, errW_some] <;> rfl), by repeat (first | (with_reducible first | exact HB.out | apply below_alloc | apply pw_below_drewN | apply below_drew1) | exact HB.out)⟩

end Go.Proofs.Ytnjfmpmoaaahlaa.Q
end
section
namespace Go.Proofs.Ytnjfmpmoaaahlaa
open Go.RowKit Go.Proofs.YtnjfmpmoaaahlaaW.PrintWords
set_option linter.unusedVariables false
set_option linter.unusedSimpArgs false
def totB : List Bd → Nat
  | [] => 0
  | b :: l => b.f0.size + b.f1.length + totB l
theorem totB_mem {l : List Bd} {b : Bd} (h : b ∈ l) : b.f0.size + b.f1.length ≤ totB l := by
  induction l with
  | nil => cases h
  | cons a l ih =>
    rcases List.mem_cons.1 h with rfl | h
    · show _ ≤ b.f0.size + b.f1.length + totB l; omega
    · have := ih h
      show _ ≤ a.f0.size + a.f1.length + totB l; omega
theorem totB_drop {l : List Bd} {i : Nat} (h : i < l.length) : totB (l.drop i) = l[i].f0.size + l[i].f1.length + totB (l.drop (i + 1)) := by
  rw [List.drop_eq_getElem_cons h]; rfl
theorem smB_of {l : List Bd} (h : l.length + totB l ≤ 1048576) : SmB l :=
  ⟨by omega, fun b hb => by have := totB_mem hb; omega⟩
section
open Go.Proofs.Ytnjfmpmoaaahlaa.Q
theorem szB1 {b : Bd} (hb : BdSmall b) {L : Int} (h0 : 0 ≤ L) (h1 : L ≤ 1048576) : laws_szBind.f b.f0 b.f1 b.f2 L = some (szR L (b.f0.size + b.f1.length)) := by
  have hb1 := hb.1
  have hb2 := hb.2
  unfold laws_szBind.f laws_szIntS.f
  rw [Go.IntWalk.wrap64_in (L - (b.f0.size : Int)) ⟨by omega, by omega⟩]
  by_cases h2 : L - (b.f0.size : Int) < 0
  · rw [if_pos h2, szR_no (by omega)]
  · rw [if_neg h2, Go.IntWalk.wrap64_in (L - (b.f0.size : Int) - (b.f1.length : Int)) ⟨by omega, by omega⟩]
    by_cases h3 : L - (b.f0.size : Int) - (b.f1.length : Int) < 0
    · rw [if_pos h3, szR_no (by omega)]; rfl
    · rw [if_neg h3, szR_yes (by omega)]
      show (if L - (b.f0.size : Int) - (b.f1.length : Int) < 0 then some (-1) else some (L - (b.f0.size : Int) - (b.f1.length : Int))) = _
      rw [if_neg h3]
      congr 1
      omega
theorem ev_szB (l : List Bd) (hl : ∀ b, b ∈ l → BdSmall b) (hlen : l.length ≤ 9223372036854775807) (L : Int) (h0 : 0 ≤ L) (h1 : L ≤ 1048576) : Ev (fun k => laws_szBindS.f k l L) (szR L (l.length + totB l)) := by
  have key : l.length ≤ 1048576 → ∀ m i, i + m = l.length → ∀ L' : Int, 0 ≤ L' → L' ≤ 1048576 → Ev (fun k => laws_szBindS.l0 k l L' (i : Int)) (szR L' (totB (l.drop i))) := by
    intro hsm m
    induction m with
    | zero =>
      intro i hi L' h0 h1
      obtain rfl : i = l.length := by omega
      rw [List.drop_length]
      refine Ev.step (fun k => by rw [laws_szBindS.l0]) ?_
      refine Ev.neg (by omega) ?_
      rw [szR_yes (show ((totB [] : Nat) : Int) ≤ L' from by simp [totB]; omega)]
      exact Ev.some (by simp [totB])
    | succ m ih =>
      intro i hi L' h0 h1
      have hlt : i < l.length := by omega
      have hbs := hl _ (List.getElem_mem hlt)
      rw [totB_drop hlt]
      refine Ev.step (fun k => by rw [laws_szBindS.l0]) ?_
      refine Ev.pos (by omega) ?_
      refine Ev.pos (by omega) ?_
      rw [show rd_T44 l (i : Int) = l[i] from rdB hlt]
      refine Ev.bind (g := fun _ => _) (Ev.some (szB1 hbs h0 h1)) ?_
      by_cases hle : ((l[i].f0.size + l[i].f1.length : Nat) : Int) ≤ L'
      · rw [szR_yes hle]
        refine Ev.neg (by omega) ?_
        rw [wr1 _ (by omega), ← szR_step hle]
        exact ih (i + 1) (by omega) _ (by omega) (by omega)
      · rw [szR_no (by omega)]
        refine Ev.pos (by omega) ?_
        rw [szR_no (by omega)]
        exact Ev.now _
  simp only [laws_szBindS.f]
  rw [Go.IntWalk.wrap64_in (L - (l.length : Int)) ⟨by omega, by omega⟩]
  by_cases h2 : L - (l.length : Int) < 0
  · refine Ev.pos h2 ?_
    rw [szR_no (by omega)]
    exact Ev.now _
  · refine Ev.neg h2 ?_
    rw [← szR_step (by omega)]
    have := key (by omega) l.length 0 (by omega) (L - (l.length : Int)) (by omega) (by omega)
    rw [List.drop_zero] at this
    exact this
theorem set_fill {α : Type} (l : List α) (z : α) {i : Nat} (h : i < l.length) : (l.take i ++ List.replicate (l.length - i) z).set i l[i] = l.take (i + 1) ++ List.replicate (l.length - (i + 1)) z := by
  have e1 : List.replicate (l.length - i) z = z :: List.replicate (l.length - (i + 1)) z := by
    rw [show l.length - i = (l.length - (i + 1)) + 1 from by omega, List.replicate_succ]
  rw [e1, List.set_append_right _ _ (by simp; omega), List.length_take, Nat.min_eq_left (by omega), Nat.sub_self, List.take_succ_eq_append_getElem h, List.append_assoc]
  rfl
theorem ev_toI (l : List Int) (hl : l.length ≤ 2000000) : Ev (fun k => laws_toIntS.f k l) l := by
  simp only [laws_toIntS.f]
  refine Ev.pos (by omega) ?_
  refine Ev.pos (by omega) ?_
  obtain ⟨r, hp, hr⟩ := ev_loop (L := fun k (s : Int × List Int) => laws_toIntS.l0 k l s.2 s.1) (fun i s => s = ((i : Int), l.take i ++ List.replicate (l.length - i) 0)) l.length (· = l) (by
    rintro i s hi rfl
    refine ⟨((i + 1 : Nat), l.take (i + 1) ++ List.replicate (l.length - (i + 1)) 0), rfl, fun r hr => ?_⟩
    refine Ev.step (fun k => by rw [laws_toIntS.l0]) ?_
    refine Ev.pos (by simpa using hi) ?_
    refine Ev.pos (by simp) ?_
    refine Ev.pos (by simp; omega) ?_
    simp only
    rw [wr1 _ (by omega), rdI_ l i hi, Int.toNat_natCast, set_fill l 0 hi]
    exact hr) (by
    rintro s rfl
    refine ⟨l, rfl, ?_⟩
    refine Ev.step (fun k => by rw [laws_toIntS.l0]) ?_
    refine Ev.neg (by simp) ?_
    exact Ev.some (by simp)) (0, List.replicate l.length 0) (by simp)
  subst hp
  exact hr
theorem ev_toB1 (b : Bd) (h : b.f1.length ≤ 2000000) : Ev (fun k => laws_toBind.f k b.f0 b.f1 b.f2) (b.f0, b.f1, b.f2) := by
  simp only [laws_toBind.f]
  exact Ev.bind (ev_toI b.f1 h) (Ev.now _)
theorem ev_toB (l : List Bd) (hl : SmB l) : Ev (fun k => laws_toBindS.f k l) l := by
  have h0 := hl.1
  simp only [laws_toBindS.f]
  refine Ev.pos (by omega) ?_
  refine Ev.pos (by omega) ?_
  obtain ⟨r, hp, hr⟩ := ev_loop (L := fun k (s : Int × List Bd) => laws_toBindS.l0 k l s.2 s.1) (fun i s => s = ((i : Int), l.take i ++ List.replicate (l.length - i) zBd)) l.length (· = l) (by
    rintro i s hi rfl
    refine ⟨((i + 1 : Nat), l.take (i + 1) ++ List.replicate (l.length - (i + 1)) zBd), rfl, fun r hr => ?_⟩
    refine Ev.step (fun k => by rw [laws_toBindS.l0]) ?_
    refine Ev.pos (by simpa using hi) ?_
    refine Ev.pos (by simp) ?_
    simp only
    rw [show rd_T44 l (i : Int) = l[i] from rdB hi]
    refine Ev.bind (ev_toB1 l[i] (hl.2 _ (List.getElem_mem hi)).2) ?_
    refine Ev.pos (by simp; omega) ?_
    rw [wr1 _ (by omega), Int.toNat_natCast, show (⟨l[i].f0, l[i].f1, l[i].f2⟩ : Bd) = l[i] from rfl, set_fill l zBd hi]
    exact hr) (by
    rintro s rfl
    refine ⟨l, rfl, ?_⟩
    refine Ev.step (fun k => by rw [laws_toBindS.l0]) ?_
    refine Ev.neg (by simp) ?_
    exact Ev.some (by simp)) (0, List.replicate l.length zBd) (by simp)
  subst hp
  exact hr
theorem ev_eqI (l : List Int) (hl : l.length ≤ 2000000) : Ev (fun k => laws_eqIntS.f k l l) true := by
  simp only [laws_eqIntS.f]
  refine Ev.pos (by first | rfl | trivial) ?_
  obtain ⟨r, hp, hr⟩ := ev_loop (L := fun k (s : Int) => laws_eqIntS.l0 k l l s) (fun i s => s = (i : Int)) l.length (· = true) (by
    rintro i s hi rfl
    refine ⟨((i + 1 : Nat) : Int), rfl, fun r hr => ?_⟩
    refine Ev.step (fun k => by rw [laws_eqIntS.l0]) ?_
    refine Ev.pos (by omega) ?_
    refine Ev.pos (by omega) ?_
    refine Ev.pos (by omega) ?_
    refine Ev.pos (by first | rfl | trivial) ?_
    rw [wr1 _ (by omega)]
    exact hr) (by
    rintro s rfl
    refine ⟨true, rfl, ?_⟩
    refine Ev.step (fun k => by rw [laws_eqIntS.l0]) ?_
    refine Ev.neg (by omega) ?_
    exact Ev.now _) 0 rfl
  subst hp
  exact hr
theorem ev_eqB (l : List Bd) (hl : SmB l) : Ev (fun k => laws_eqBindS.f k l l) true := by
  have h0 := hl.1
  simp only [laws_eqBindS.f]
  refine Ev.pos (by first | rfl | trivial) ?_
  obtain ⟨r, hp, hr⟩ := ev_loop (L := fun k (s : Int) => laws_eqBindS.l0 k l l s) (fun i s => s = (i : Int)) l.length (· = true) (by
    rintro i s hi rfl
    refine ⟨((i + 1 : Nat) : Int), rfl, fun r hr => ?_⟩
    have he : Ev (fun k => laws_eqBind.f k l[i].f0 l[i].f1 l[i].f2 l[i].f0 l[i].f1 l[i].f2) true := by
      simp only [laws_eqBind.f]
      refine Ev.pos (by first | rfl | trivial) ?_
      refine Ev.bind (ev_eqI l[i].f1 (hl.2 _ (List.getElem_mem hi)).2) ?_
      refine Ev.pos (by first | rfl | trivial) ?_
      exact Ev.pos (by first | rfl | trivial) (Ev.now _)
    refine Ev.step (fun k => by rw [laws_eqBindS.l0]) ?_
    refine Ev.pos (by omega) ?_
    refine Ev.pos (by omega) ?_
    refine Ev.pos (by omega) ?_
    rw [rdB hi]
    refine Ev.bind he ?_
    refine Ev.pos (by first | rfl | trivial) ?_
    rw [wr1 _ (by omega)]
    exact hr) (by
    rintro s rfl
    refine ⟨true, rfl, ?_⟩
    refine Ev.step (fun k => by rw [laws_eqBindS.l0]) ?_
    refine Ev.neg (by omega) ?_
    exact Ev.now _) 0 rfl
  subst hp
  exact hr
end
/-! The contracts. -/
theorem szB_any (l : List Bd) (A : Option Addr) (c : Nat) (w : World) (hr : kB.C w A l.length l) (hc : l.length ≤ c) (hl : ∀ b, b ∈ l → BdSmall b) (hlen : l.length ≤ 9223372036854775807) :
    Calls Try.prog 5 #[.slice A l.length c, .int .i64 1048576] w (Ret w (.int .i64 (szR 1048576 (l.length + totB l)))) := by
  obtain ⟨k, hk⟩ := (ev_szB l hl hlen 1048576 (by omega) (by omega)).rounds
  exact Q.laws_szBindS.calls k A c l 1048576 _ w hr hc hk
def GetBs (w : World) (l : List Bd) (e : Ending) (w' : World) : Prop := ∃ A c, e = .returned (.slice A l.length c) ∧ l.length ≤ c ∧ kB.C w' A l.length l ∧ Below w.heap.size w w'
theorem toB_any (l : List Bd) (A : Option Addr) (c : Nat) (w : World) (hr : kB.C w A l.length l) (hc : l.length ≤ c) (hs : SmB l) : Calls Try.prog 8 #[.slice A l.length c] w (GetBs w l) := by
  obtain ⟨k, hk⟩ := (ev_toB l hs).rounds
  refine (Q.laws_toBindS.calls k A c l l w hr hc hk).mono ?_
  rintro e w' ⟨v, rfl, hS, hb⟩
  obtain ⟨B, d, rfl, hd, hC⟩ := Kd.S_reads hS
  exact ⟨B, d, rfl, hd, hC, hb⟩
theorem eqB_any (l : List Bd) (A : Option Addr) (c : Nat) (B : Option Addr) (d : Nat) (w : World) (hr : kB.C w A l.length l) (hc : l.length ≤ c) (hr2 : kB.C w B l.length l) (hc2 : l.length ≤ d) (hs : SmB l) :
    Calls Try.prog 11 #[.slice A l.length c, .slice B l.length d] w (Ret w (.bool true)) := by
  obtain ⟨k, hk⟩ := (ev_eqB l hs).rounds
  exact Q.laws_eqBindS.calls k A c l B d l _ w hr hc hr2 hc2 hk
end Go.Proofs.Ytnjfmpmoaaahlaa
end
section
namespace Go.Proofs.Ytnjfmpmoaaahlaa
open Go.RowKit Go.Proofs.YtnjfmpmoaaahlaaW.PrintWords
set_option linter.unusedVariables false
set_option linter.unusedSimpArgs false
section
open Go.Proofs.Ytnjfmpmoaaahlaa.Q
theorem find_row {l : List Bd} {f : List Int} (hlen : f.length ≤ 2000000) (hf : ∀ m, m ∈ f → ∃ j : Nat, j < l.length ∧ m = (j : Int)) {i : Nat} (hi : i < f.length) (r : Int × Int) (h1 : bestL l f f[i] = true → r = (f[i], 1)) (h2 : bestL l f f[i] = false → Ev (fun k => spec_l3Find.l0 k l f ((i + 1 : Nat) : Int)) r) :
    Ev (fun k => spec_l3Find.l0 k l f (i : Int)) r := by
  obtain ⟨ji, hji, hei⟩ := hf _ (List.getElem_mem hi)
  have hri := rdI_ f i hi
  refine Ev.step (fun k => by rw [spec_l3Find.l0]) (Ev.pos (by omega) ?_)
  obtain ⟨r', hp, hr⟩ := ev_loop (L := fun k (s : Int × Bool) => spec_l3Find.l1 k l f (i : Int) s.2 s.1) (fun n s => s = ((n : Int), bestI l f f[i] n)) f.length (· = r) (by
    rintro n s hn rfl
    obtain ⟨jn, hjn, hen⟩ := hf _ (List.getElem_mem hn)
    have hrn := rdI_ f n hn
    refine ⟨((n + 1 : Nat), bestI l f f[i] (n + 1)), rfl, fun r hr => ?_⟩
    rw [bestI_next l f f[i] hn] at hr
    rcases hb : bestI l f f[i] n with _ | _
    · refine Ev.step (fun k => by rw [spec_l3Find.l1]) ?_
      refine Ev.pos (by simpa using hn) (Ev.neg (by simp [hb]) ?_)
      rw [wr1 _ (by omega)]
      rw [hb, Bool.false_and] at hr
      exact hr
    · refine Ev.step (fun k => by rw [spec_l3Find.l1]) ?_
      refine Ev.pos (by simpa using hn) ?_
      refine Ev.pos (by simp [hb]) ?_
      simp only
      refine Ev.pos (by omega) ?_
      refine Ev.pos (by rw [hrn, hen]; omega) ?_
      refine Ev.pos (by rw [hrn, hen]; omega) ?_
      refine Ev.pos (by omega) ?_
      refine Ev.pos (by omega) ?_
      refine Ev.pos (by rw [hri, hei]; omega) ?_
      refine Ev.pos (by rw [hri, hei]; omega) ?_
      refine Ev.bind (g := fun _ => _) (Ev.some rfl) ?_
      rw [wr1 _ (by omega)]
      rw [hb, Bool.true_and] at hr
      have he : subI l f[n] f[i] = decide (∀ x, x ∈ (rd_T49 l (rd f (n : Int))).f1 → x ∈ (rd_T49 l (rd f (i : Int))).f1) := by
        unfold subI
        rw [hrn, hri, hen, hei, rdB hjn, rdB hji, Int.toNat_natCast, Int.toNat_natCast, bdAt_eq hjn, bdAt_eq hji]
      rw [he] at hr
      exact hr) (by
    rintro s rfl
    refine ⟨r, rfl, ?_⟩
    rcases hb : bestI l f f[i] f.length with _ | _
    · refine Ev.step (fun k => by rw [spec_l3Find.l1]) ?_
      refine Ev.neg (by simp) (Ev.neg (by simp [hb]) ?_)
      rw [wr1 _ (by omega)]
      exact h2 hb
    · refine Ev.step (fun k => by rw [spec_l3Find.l1]) ?_
      refine Ev.neg (by simp) ?_
      refine Ev.pos (by simp [hb]) ?_
      refine Ev.pos (by omega) ?_
      refine Ev.pos (by omega) ?_
      rw [hri, h1 hb]
      exact Ev.now _) (0, true) (by rw [bestI_zero]; rfl)
  subst hp
  exact hr
theorem ev_find {l : List Bd} (hl : SmB l) (x : Fm) : Ev (fun k => spec_l3Find.f k l x.f0 x.f1 x.f2 x.f3 x.f4) (boundR l x) := by
  simp only [spec_l3Find.f]
  refine Ev.bind (ev_fitting hl x) ?_
  have hlen : (fitL l x).length ≤ 2000000 := Nat.le_trans (fitI_len l x l.length) hl.1
  have hf : ∀ m, m ∈ fitL l x → ∃ j : Nat, j < l.length ∧ m = (j : Int) := fun m hm => by
    obtain ⟨i, hi, he, _⟩ := mem_fitL.1 hm
    exact ⟨i, hi, he⟩
  obtain ⟨f, hfe⟩ : ∃ f, f = fitL l x := ⟨_, rfl⟩
  have hb : ∀ i (hi : i < f.length), bestL l f f[i] = true → (∀ j (hj : j < i), bestL l f (f[j]'(by omega)) = false) → boundR l x = (f[i], 1) := by subst hfe; exact fun i hi h1 h2 => boundR_some hi h1 h2
  have hn : (∀ j (hj : j < f.length), bestL l f f[j] = false) → boundR l x = (0, if f = [] then 0 else 2) := by subst hfe; exact boundR_none
  rw [← hfe] at hlen hf ⊢
  clear hfe
  -- from place i on, where no place ahead of i is best
  have key : ∀ m i, i + m = f.length → (∀ j (hj : j < i) (h : j < f.length), bestL l f f[j] = false) → Ev (fun k => spec_l3Find.l0 k l f (i : Int)) (boundR l x) := by
    intro m
    induction m with
    | zero =>
      intro i hi hno
      obtain rfl : i = f.length := by omega
      rw [hn (fun j hj => hno j hj hj)]
      refine Ev.step (fun k => by rw [spec_l3Find.l0]) (Ev.neg (by omega) ?_)
      by_cases he : f = []
      · subst he
        exact Ev.neg (by simp) (Ev.now _)
      · rw [if_neg he]
        refine Ev.pos ?_ (Ev.now _)
        have := List.length_pos_iff.2 he
        omega
    | succ m ih =>
      intro i hi hno
      have hlt : i < f.length := by omega
      refine find_row hlen hf hlt _ (fun h => hb i hlt h (fun j hj => hno j hj (by omega))) (fun h => ih (i + 1) (by omega) (fun j hj h2 => ?_))
      by_cases e : j = i
      · subst e; exact h
      · exact hno j (by omega) h2
  exact key f.length 0 (by omega) (fun j hj => absurd hj (by omega))
theorem bound_in {l : List Bd} {x : Fm} (h : (boundR l x).2 = 1) : ∃ j : Nat, j < l.length ∧ (boundR l x).1 = (j : Int) := by
  rcases boundR_cases l x with ⟨m, hm, _, he⟩ | ⟨_, he⟩
  · obtain ⟨i, hi, rfl, _⟩ := mem_fitL.1 hm
    exact ⟨i, hi, by rw [he]⟩
  · rw [he] at h
    by_cases hn : fitL l x = []
    · rw [if_pos hn] at h; exact absurd h (by decide)
    · rw [if_neg hn] at h; exact absurd h (by decide)
end
end Go.Proofs.Ytnjfmpmoaaahlaa
end
section
namespace Go.Proofs.Ytnjfmpmoaaahlaa
open Go.RowKit Go.Proofs.YtnjfmpmoaaahlaaW.PrintWords Go.Proofs.YtnjfmpmoaaahlaaW.PrintLast Go.Proofs.YtnjfmpmoaaahlaaW.PrintMore
set_option linter.unusedVariables false
set_option linter.unusedSimpArgs false
/-- Two ints are handed back. -/
def Ret2 (w : World) (p : Int × Int) (e : Ending) (w' : World) : Prop := e = .returned (.tuple #[.int .i64 p.1, .int .i64 p.2]) ∧ Below w.heap.size w w'
theorem any_not_best (l : List Bd) (f : List Int) (m : Int) : (f.any fun j => !subI l j m) = !bestL l f m := by
  unfold bestL bestI
  rw [List.take_length]
  induction f with
  | nil => rfl
  | cons a f ih => simp only [List.any_cons, List.all_cons, ih, Bool.not_and]
set_option maxHeartbeats 2000000 in
theorem bound1_any (l : List Bd) (A : Option Addr) (c : Nat) (i j : Nat) (hi : i < l.length) (hj : j < l.length) (g h : Nat) (w : World) (hr : kB.C w A l.length l) (hc : l.length ≤ c)
    (hg : w.heap[g]? = some (.cells #[.slice A l.length c] 31 (0, 0))) (hh : w.heap[h]? = some (.cells #[.int .i64 (i : Int)] 3 (0, 0))) :
    Calls Try.prog 46 #[.int .i64 (j : Int), .pointer (some ⟨g, 0, none⟩), .pointer (some ⟨h, 0, none⟩)] w (Ret w (.bool (!subI l (j : Int) (i : Int)))) := by
  obtain ⟨ad, J1, jc, e, a0, a1, a2, hkj⟩ := bd_at hr j hj
  obtain ⟨ad2, I1, ic, e2, b0, b1, b2, hki⟩ := bd_at hr i hi
  subst e
  obtain rfl : ad = ad2 := by injection e2
  have pg : w.cell? ⟨g, 0, none⟩ = some (.slice (some ad) l.length c) := (blk_cell hg 0).trans rfl
  have ph : w.cell? ⟨h, 0, none⟩ = some (.int .i64 (i : Int)) := (blk_cell hh 0).trans rfl
  have q1 : (0 : Int) ≤ (j : Int) := by omega
  have q2 : (j : Int) < (l.length : Int) := by omega
  have q3 : (0 : Int) ≤ (i : Int) := by omega
  have q4 : (i : Int) < (l.length : Int) := by omega
  rw [← bdAt_eq hj] at a1 hkj
  rw [← bdAt_eq hi] at b1 hki
  unfold subI
  rw [Int.toNat_natCast, Int.toNat_natCast]
  clear e2 hg hh a0 a2 b0 b2 hr
  generalize bdAt l j = bj at a1 hkj ⊢
  generalize bdAt l i = bi at b1 hki ⊢
  have HC := Lib.hid (fun W hb => implWithin_any bj.f1 bi.f1 J1 I1 jc ic W (Kd.C_below hkj.g1 hb) hkj.l1 (Kd.C_below hki.g1 hb) hki.l1)
  generalize decide (∀ x, x ∈ bj.f1 → x ∈ bi.f1) = r at HC ⊢
  clear hkj hki
  go_enter Try.func46, Try.ntmps46
  go_wp2_with fail
  go_region_held3 (fun W => W.cell? ⟨g, 0, none⟩ = some (.slice (some ad) l.length c) ∧ W.cell? ⟨h, 0, none⟩ = some (.int .i64 (i : Int)) ∧ W.cell? ⟨(ad.add (j * 3)).block, (ad.add (j * 3)).off + 1, none⟩ = some (.slice J1 bj.f1.length jc) ∧ W.cell? ⟨(ad.add (i * 3)).block, (ad.add (i * 3)).off + 1, none⟩ = some (.slice I1 bi.f1.length ic)) (first | go_keep | exact ⟨ck0 (below_step (Below.refl _ _).drew hb1) pg, ck0 (below_step (Below.refl _ _).drew hb1) ph, ck0 (below_step (Below.refl _ _).drew hb1) a1, ck0 (below_step (Below.refl _ _).drew hb1) b1⟩) ((go_at_call 47; refine (HC.out _ (Below.refl _ _).drew).mono ?_; rintro e w1 ⟨rfl, hb1⟩))
  have HB := Lib.hid (below_step (Below.refl _ _).drew hb1)
  clear hb1
  go_wp2_with fail
  go_ret
  exact ⟨rfl, HB.out⟩
set_option maxHeartbeats 4000000 in
set_option maxRecDepth 100000 in
theorem bound_any (l : List Bd) (A : Option Addr) (c : Nat) (x : Fm) (A3 : Option Addr) (c3 : Nat) (A4 : Option Addr) (c4 : Nat) (w : World) (hr : kB.C w A l.length l) (hc : l.length ≤ c) (hx : FmIn w x A3 c3 A4 c4) (hs : SmB l) :
    Calls Try.prog 26 #[.slice A l.length c, .agg #[.int .i64 x.f0, .string x.f1, .int .i64 x.f2, .slice A3 x.f3.length c3, .slice A4 x.f4.length c4]] w (Ret2 w (boundR l x)) := by
  have eg : ∀ args w, (callFunc 46 args).run Try.prog w = .ok (.enter 46 args) w := enters_of Try.func46 (by kernel_rfl) rfl
  obtain ⟨k, hk⟩ := (ev_implFitting hs x).rounds
  have HF := Lib.hid (fun W hb => Q.impl_fitting.calls k A c l x.f0 x.f1 x.f2 A3 c3 x.f3 A4 c4 x.f4 (fitL l x) W (Kd.C_below hr hb) hc (Kd.C_below hx.g3 hb) hx.l3 (Kd.C_below hx.g4 hb) hx.l4 hk)
  have hfm : ∀ m, m ∈ fitL l x → ∃ j : Nat, j < l.length ∧ m = (j : Int) := fun m hm => by
    obtain ⟨i, hi, he, _⟩ := mem_fitL.1 hm
    exact ⟨i, hi, he⟩
  have hlen : (fitL l x).length ≤ 2000000 := Nat.le_trans (fitI_len l x l.length) hs.1
  obtain ⟨f, hfe⟩ : ∃ f, f = fitL l x := ⟨_, rfl⟩
  have hB : ∀ i (hi : i < f.length), bestL l f f[i] = true → (∀ j (hj : j < i), bestL l f (f[j]'(by omega)) = false) → boundR l x = (f[i], 1) := by subst hfe; exact fun i hi h1 h2 => boundR_some hi h1 h2
  have hN : (∀ j (hj : j < f.length), bestL l f f[j] = false) → boundR l x = (0, if f = [] then 0 else 2) := by subst hfe; exact boundR_none
  rw [← hfe] at hfm hlen HF
  clear hfe hk hs
  generalize boundR l x = r at hB hN ⊢
  have HB := Lib.hid hB
  have HN := Lib.hid hN
  have HM := Lib.hid hfm
  have HR := Lib.hid (fun W (hb : Below w.heap.size w W) => Kd.C_below hr hb)
  have EG := Lib.hid eg
  clear hB hN hfm hr hx eg
  go_enter Try.func26, Try.ntmps26
  have kk := two_new (w := w) (O1 := .cells #[.slice A l.length c] 31) (O2 := .cells #[.int .i64 x.f0, .string x.f1, .int .i64 x.f2, .slice A3 x.f3.length c3, .slice A4 x.f4.length c4] 35) (Below.refl _ _)
  obtain ⟨k0, k1, b0⟩ := kk
  obtain ⟨q0, q1, q2, q3, q4⟩ := fm_cells k1
  have q5 := (blk_cell k0 0).trans rfl
  have K0 := Lib.hid k0
  have B0 := Lib.hid b0
  clear k0 k1 b0
  go_wp2_with fail
  refine (HF.out _ B0.out).mono ?_
  rintro e w1 ⟨v, rfl, hR, hb⟩
  obtain ⟨F, fc, rfl, hfc, hF⟩ := Kd.R_reads hR
  have K1 := Lib.hid (blk_below K0.out hb)
  have B1 := Lib.hid (below_step B0.out hb)
  have IF := Lib.hid hF
  clear hR hb hF q0 q1 q2 q3 q4 q5 HF K0 B0
  by_cases hnil : f = []
  · have t1 : ((f.length : Int) == 0) = true := by simp [hnil]
    have t2 : (f.length == 0) = true := by simp [hnil]
    have hr := HN.out (fun j hj => absurd hj (by simp [hnil]))
    rw [if_pos hnil] at hr
    have HR2 := Lib.hid hr
    clear hr hnil
    go_wp2_with fail
    refine bodyPost_ret (v := .tuple #[.int .i64 0, .int .i64 0]) (by simp [results, Try.results26, go_sem]) rfl ?_
    rw [HR2.out]
    exact ⟨rfl, B1.out⟩
  have hpos := List.length_pos_iff.2 hnil
  have t1 : ((f.length : Int) == 0) = false := beq_eq_false_iff_ne.mpr (by omega)
  have t2 : (f.length == 0) = false := beq_eq_false_iff_ne.mpr (by omega)
  have HNN := Lib.hid hnil
  clear hnil
  go_wp2_with fail
  go_loopg [8, 17] f.length (fun kq v8 v17 w' => ∃ i : Nat, i ≤ f.length ∧ f.length - i ≤ kq ∧ v17 = .int .i64 i ∧ Aside0 (∀ j (h : j < f.length), j < i → bestL l f f[j] = false) ∧ Aside0 (Below w1.heap.size w1 w'))
  case atStart => exact ⟨0, Nat.zero_le _, by omega, rfl, ⟨fun j _ h => absurd h (by omega)⟩, ⟨Below.refl _ _⟩⟩
  case round =>
    obtain ⟨i, hi, hg, rfl, HNO, HW⟩ := hrel
    by_cases hlt : i < f.length
    · obtain ⟨ad, e, hcell⟩ := int_at (Kd.C_below IF.out HW.out) i hlt
      subst e
      obtain ⟨ji, hji, hei⟩ := HM.out _ (List.getElem_mem hlt)
      have bn := below_new wr (.cells #[.int .i64 (ji : Int)] 3)
      have kn := blk_new wr (.cells #[.int .i64 (ji : Int)] 3)
      have HC := Lib.hid (containsFuncI_any f (fun m => !subI l m (ji : Int)) 46 #[.pointer (some ⟨w.heap.size, 0, none⟩), .pointer (some ⟨wr.heap.size, 0, none⟩)] EG.out (some ad) fc (wr.alloc (.cells #[.int .i64 (ji : Int)] 3)) (Kd.C_below (Kd.C_below IF.out HW.out) bn) hfc
        (fun m hm W hb => by
          obtain ⟨jm, hjm, rfl⟩ := HM.out m hm
          exact bound1_any l A c ji jm hji hjm w.heap.size wr.heap.size W (HR.out W (below_step (below_step (below_step B1.out HW.out) bn) hb)) hc (blk_below (blk_below (blk_below K1.out HW.out) bn) hb) (blk_below kn hb)))
      rw [any_not_best, ← hei] at HC
      have q8 := (blk_cell kn 0).trans rfl
      have HBN := Lib.hid bn
      have HKN := Lib.hid kn
      rw [hei] at hcell
      have p1 : (0 : Int) ≤ (i : Int) := by omega
      have p2 : (i : Int) < (f.length : Int) := by omega
      rcases hbest : bestL l f f[i] with _ | _
      · rw [hbest] at HC
        have HNX := Lib.hid hbest
        rw [hei] at HC
        clear hbest bn kn
        go_wp2_with fail
        refine HC.out.mono ?_
        rintro e w3 ⟨rfl, hb3⟩
        have HB3 := Lib.hid (below_step HW.out (below_step HBN.out hb3))
        clear hb3 q8
        go_wp2_with fail
        go_roundg (f.length - (i + 1))
        case measure => omega
        case rel =>
          refine ⟨i + 1, by omega, Nat.le_refl _, by go_num, ⟨fun j hj hlt2 => ?_⟩, ⟨HB3.out⟩⟩
          by_cases e : j = i
          · subst e; exact HNX.out
          · exact HNO.out j hj (by omega)
      · rw [hbest] at HC
        have HRR := Lib.hid (HB.out i hlt hbest (fun j hj => HNO.out j _ hj))
        rw [hei] at HC HRR
        clear hbest bn kn
        go_wp2_with fail
        refine HC.out.mono ?_
        rintro e w3 ⟨rfl, hb3⟩
        have q9 := (blk_cell (blk_below HKN.out hb3) 0).trans rfl
        have HB3 := Lib.hid (below_step B1.out (below_step HW.out (below_step HBN.out hb3)))
        clear hb3 q8
        go_wp2_with fail
        refine bodyPost_ret (v := .tuple #[.int .i64 (ji : Int), .int .i64 1]) (by simp [results, Try.results26, go_sem]) rfl ?_
        rw [HRR.out]
        exact ⟨rfl, HB3.out⟩
    · obtain rfl : i = f.length := by omega
      have hr := HN.out (fun j hj => HNO.out j hj hj)
      rw [if_neg HNN.out] at hr
      have HR2 := Lib.hid hr
      clear hr
      go_wp2_with fail
      refine bodyPost_ret (v := .tuple #[.int .i64 0, .int .i64 2]) (by simp [results, Try.results26, go_sem]) rfl ?_
      rw [HR2.out]
      exact ⟨rfl, below_step B1.out HW.out⟩
end Go.Proofs.Ytnjfmpmoaaahlaa
end
section
namespace Go.Proofs.Ytnjfmpmoaaahlaa
open Go.RowKit Go.Proofs.YtnjfmpmoaaahlaaW.PrintWords Go.Proofs.YtnjfmpmoaaahlaaW.PrintLast Go.Proofs.YtnjfmpmoaaahlaaW.PrintMore
set_option linter.unusedVariables false
set_option linter.unusedSimpArgs false
theorem Ret2.open {w : World} {a b : Int} {e : Ending} {w' : World} (h : Ret2 w (a, b) e w') : e = .returned (.tuple #[.int .i64 a, .int .i64 b]) ∧ Below w.heap.size w w' := h
set_option maxHeartbeats 4000000 in
set_option maxRecDepth 100000 in
theorem implFind_any (l : List Bd) (A : Option Addr) (c : Nat) (x : Fm) (A3 : Option Addr) (c3 : Nat) (A4 : Option Addr) (c4 : Nat) (w : World) (hr : kB.C w A l.length l) (hc : l.length ≤ c) (hx : FmIn w x A3 c3 A4 c4) (hs : SmB l) (ht : x.tot ≤ 1048576) :
    Calls Try.prog 10 #[.slice A l.length c, .agg #[.int .i64 x.f0, .string x.f1, .int .i64 x.f2, .slice A3 x.f3.length c3, .slice A4 x.f4.length c4]] w (Ret2 w (findR l x)) := by
  have hout : ∀ h : pB (BdsOk l) = false ∨ pB (IsName x) = false, findR l x = (0, 0) := fun h => findR_out (fun k => by
    rcases h with h | h
    · exact pB_false h k.1
    · exact pB_false h k.2)
  have hin : pB (BdsOk l) = true → pB (IsName x) = true → findR l x = (if (boundR l x).2 = 1 then ((bdAt l (boundR l x).1.toNat).f2, 1) else (0, (boundR l x).2)) := fun h1 h2 => by
    unfold findR
    rw [if_pos (pB_iff.2 ⟨pB_iff.1 h1, pB_iff.1 h2⟩)]
  have hbi : (boundR l x).2 = 1 → ∃ j : Nat, j < l.length ∧ (boundR l x).1 = (j : Int) := bound_in
  have HO := Lib.hid hout
  have HIN := Lib.hid hin
  have HBI := Lib.hid hbi
  have HR := Lib.hid (fun W (hb : Below w.heap.size w W) => Kd.C_below hr hb)
  have HX := Lib.hid hx
  have HS := Lib.hid hs
  clear hout hin hbi hr hx hs
  generalize findR l x = r at HO HIN ⊢
  go_enter Try.func10, Try.ntmps10
  go_wp2_with fail
  refine (implBinds_any l A c _ (HR.out _ (below_new _ _)) hc (fun b hb => by have := (HS.out.2 b hb).1; omega)).mono ?_
  rintro e w1 ⟨rfl, hb⟩
  obtain ⟨k0, b1⟩ := one_new hb
  have K0 := Lib.hid k0
  have B1 := Lib.hid b1
  clear hb k0 b1
  rcases hv : pB (BdsOk l) with _ | _
  · have HE := Lib.hid (HO.out (.inl hv))
    clear hv
    go_wp2_with fail
    refine bodyPost_ret (v := .tuple #[.int .i64 0, .int .i64 0]) (by simp [results, Try.results10, go_sem]) rfl ?_
    rw [HE.out]
    exact ⟨rfl, B1.out⟩
  · have HV := Lib.hid hv
    clear hv
    obtain ⟨p0, p1, p2, p3, p4⟩ := fm_cells K0.out
    go_wp2_with fail
    clear p0 p1 p2 p3 p4
    refine (isName_any x A3 c3 A4 c4 w1 (HX.out.below B1.out) ht).mono ?_
    rintro e w2 ⟨rfl, hb⟩
    have K1 := Lib.hid (blk_below K0.out hb)
    have B2 := Lib.hid (below_step B1.out hb)
    clear hb
    rcases hn : pB (IsName x) with _ | _
    · have HE := Lib.hid (HO.out (.inr hn))
      clear hn
      go_wp2_with fail
      refine bodyPost_ret (v := .tuple #[.int .i64 0, .int .i64 0]) (by simp [results, Try.results10, go_sem]) rfl ?_
      rw [HE.out]
      exact ⟨rfl, B2.out⟩
    · have HE := Lib.hid (HIN.out HV.out hn)
      clear hn
      obtain ⟨p0, p1, p2, p3, p4⟩ := fm_cells K1.out
      go_wp2_with fail
      clear p0 p1 p2 p3 p4
      have HBD := Lib.hid (bound_any l A c x A3 c3 A4 c4 w2 (HR.out _ B2.out) hc (HX.out.below B2.out) HS.out)
      rcases hbr : boundR l x with ⟨mm, en⟩
      rw [hbr] at HBD HE HBI
      clear hbr
      refine HBD.out.mono ?_
      intro e w3 hret
      obtain ⟨rfl, hb⟩ := hret.open
      have B3 := Lib.hid (below_step B2.out hb)
      clear hb HO HIN hret HBD
      by_cases h1 : en = 1
      · obtain ⟨j, hj, hmj⟩ := HBI.out h1
        simp only at hmj
        subst hmj h1
        obtain ⟨ad, J1, jc, e, a0, a1, a2, _⟩ := bd_at (HR.out _ B3.out) j hj
        subst e
        have he := HE.out
        simp only at he
        rw [if_pos (by trivial), Int.toNat_natCast, bdAt_eq hj] at he
        have HF := Lib.hid he
        have q1 : (0 : Int) ≤ (j : Int) := by omega
        have q2 : (j : Int) < (l.length : Int) := by omega
        clear he a0 a1
        go_wp2_with fail
        refine bodyPost_ret (v := .tuple #[.int .i64 l[j].f2, .int .i64 1]) (by simp [results, Try.results10, go_sem]) rfl ?_
        rw [HF.out]
        exact ⟨rfl, B3.out⟩
      · have t1 : (en != 1) = true := by simpa using h1
        have he := HE.out
        simp only at he
        rw [if_neg h1] at he
        have HF := Lib.hid he
        clear he h1
        go_wp2_with fail
        refine bodyPost_ret (v := .tuple #[.int .i64 0, .int .i64 en]) (by simp [results, Try.results10, go_sem]) rfl ?_
        rw [HF.out]
        exact ⟨rfl, B3.out⟩
end Go.Proofs.Ytnjfmpmoaaahlaa
end
section
namespace Go.Proofs.Ytnjfmpmoaaahlaa
open Go.RowKit Go.Proofs.YtnjfmpmoaaahlaaW.PrintWords Go.Proofs.YtnjfmpmoaaahlaaW.PrintLast Go.Proofs.YtnjfmpmoaaahlaaW.PrintMore
set_option linter.unusedVariables false
set_option linter.unusedSimpArgs false
theorem boundR_end (l : List Bd) (x : Fm) : (boundR l x).2 = 0 ∨ (boundR l x).2 = 1 ∨ (boundR l x).2 = 2 := by
  rcases boundR_cases l x with ⟨m, _, _, he⟩ | ⟨_, he⟩
  · rw [he]; exact .inr (.inl rfl)
  · rw [he]
    by_cases hn : fitL l x = []
    · rw [if_pos hn]; exact .inl rfl
    · rw [if_neg hn]; exact .inr (.inr rfl)
theorem findR_in {l : List Bd} {x : Fm} (h1 : BdsOk l) (h2 : IsName x) : findR l x = (if (boundR l x).2 = 1 then ((bdAt l (boundR l x).1.toNat).f2, 1) else (0, (boundR l x).2)) := by
  unfold findR
  rw [if_pos (pB_iff.2 ⟨h1, h2⟩)]
theorem sameR_in {l : List Bd} {x y : Fm} (h1 : BdsOk l) (h2 : IsName x) (h3 : IsName y) : sameR l x y = refB (findR l x) (findR l y) x y := by
  unfold sameR
  rw [pB_iff.2 ⟨h1, h2, h3⟩]; rfl
theorem sameR_out {l : List Bd} {x y : Fm} (h : ¬ (BdsOk l ∧ IsName x ∧ IsName y)) : sameR l x y = false := by
  unfold sameR
  rw [← pB_no h]; rfl
section
open Go.Proofs.Ytnjfmpmoaaahlaa.Q
theorem ev_l3Same {l : List Bd} (hl : SmB l) {x y : Fm} (h1 : BdsOk l) (h2 : IsName x) (h3 : IsName y) : Ev (fun k => spec_l3Same.f k l x.f0 x.f1 x.f2 x.f3 x.f4 y.f0 y.f1 y.f2 y.f3 y.f4) (sameR l x y) := by
  rw [sameR_in h1 h2 h3, findR_in h1 h2, findR_in h1 h3]
  have hx := boundR_end l x
  have hy := boundR_end l y
  have bx : (boundR l x).2 = 1 → ∃ j : Nat, j < l.length ∧ (boundR l x).1 = (j : Int) := bound_in
  have by_ : (boundR l y).2 = 1 → ∃ j : Nat, j < l.length ∧ (boundR l y).1 = (j : Int) := bound_in
  simp only [spec_l3Same.f]
  refine Ev.bind (ev_find hl x) ?_
  refine Ev.bind (ev_find hl y) ?_
  generalize boundR l x = u at hx bx ⊢
  generalize boundR l y = v at hy by_ ⊢
  obtain ⟨m, p⟩ := u
  obtain ⟨n, q⟩ := v
  simp only at hx hy bx by_ ⊢
  unfold refB
  by_cases hpq : p = q
  · subst hpq
    refine Ev.pos rfl ?_
    refine Ev.step (fun k => by rw [spec_l3Same.j0]) ?_
    rcases hx with hp | hp | hp
    · subst hp
      refine Ev.neg (by decide) ?_
      refine Ev.pos rfl ?_
      refine Ev.some ?_
      congr 1
      rw [Bool.eq_iff_iff]
      simp
    · subst hp
      obtain ⟨i, hi, rfl⟩ := bx rfl
      obtain ⟨j, hj, rfl⟩ := by_ rfl
      refine Ev.neg (by decide) ?_
      refine Ev.neg (by decide) ?_
      refine Ev.pos (by omega) ?_
      refine Ev.pos (by omega) ?_
      refine Ev.pos (by omega) ?_
      refine Ev.pos (by omega) ?_
      rw [rdB hi, rdB hj]
      refine Ev.some ?_
      congr 1
      rw [if_pos rfl, if_pos rfl, Int.toNat_natCast, Int.toNat_natCast, bdAt_eq hi, bdAt_eq hj]
      simp
    · subst hp
      refine Ev.pos rfl ?_
      refine Ev.some ?_
      simp
  · refine Ev.neg hpq ?_
    refine Ev.step (fun k => by rw [spec_l3Same.j0]) ?_
    refine Ev.pos rfl ?_
    refine Ev.some ?_
    congr 1
    rcases hx with rfl | rfl | rfl <;> rcases hy with rfl | rfl | rfl <;> simp at hpq ⊢
theorem ev_sameRef {l : List Bd} (hl : SmB l) {x y : Fm} (hx : x.tot ≤ 1048576) (hy : y.tot ≤ 1048576) : Ev (fun k => spec_SameReference.f k l x.f0 x.f1 x.f2 x.f3 x.f4 y.f0 y.f1 y.f2 y.f3 y.f4) (sameR l x y) := by
  simp only [spec_SameReference.f]
  refine Ev.bind (ev_bindsValid hl) ?_
  rcases hv : pB (BdsOk l) with _ | _
  · rw [sameR_out (fun h => pB_false hv h.1)]
    exact Ev.neg (by simp) (Ev.now _)
  refine Ev.pos rfl ?_
  refine Ev.bind (g := fun _ => _) (Ev.some (ev_l3Is hx)) ?_
  rcases hn : pB (IsName x) with _ | _
  · rw [sameR_out (fun h => pB_false hn h.2.1)]
    exact Ev.neg (by simp) (Ev.now _)
  refine Ev.pos rfl ?_
  refine Ev.bind (g := fun _ => _) (Ev.some (ev_l3Is hy)) ?_
  rcases hm : pB (IsName y) with _ | _
  · rw [sameR_out (fun h => pB_false hm h.2.2)]
    exact Ev.neg (by simp) (Ev.now _)
  refine Ev.pos rfl ?_
  exact Ev.bind (ev_l3Same hl (pB_iff.1 hv) (pB_iff.1 hn) (pB_iff.1 hm)) (Ev.now _)
end
theorem Ret2.b {w : World} {p : Int × Int} {a b : Int} (hp : p = (a, b)) {e : Ending} {w' : World} (h : Ret2 w p e w') : e = .returned (.tuple #[.int .i64 a, .int .i64 b]) ∧ Below w.heap.size w w' := by subst hp; exact h
set_option maxHeartbeats 4000000 in
set_option maxRecDepth 100000 in
theorem implSameRef_any (l : List Bd) (A : Option Addr) (c : Nat) (x : Fm) (A3 : Option Addr) (c3 : Nat) (A4 : Option Addr) (c4 : Nat) (y : Fm) (B3 : Option Addr) (d3 : Nat) (B4 : Option Addr) (d4 : Nat) (w : World) (hr : kB.C w A l.length l) (hc : l.length ≤ c) (hx : FmIn w x A3 c3 A4 c4) (hy : FmIn w y B3 d3 B4 d4) (hs : SmB l) (tx : x.tot ≤ 1048576) (ty : y.tot ≤ 1048576) :
    Calls Try.prog 14 #[.slice A l.length c, .agg #[.int .i64 x.f0, .string x.f1, .int .i64 x.f2, .slice A3 x.f3.length c3, .slice A4 x.f4.length c4], .agg #[.int .i64 y.f0, .string y.f1, .int .i64 y.f2, .slice B3 y.f3.length d3, .slice B4 y.f4.length d4]] w (Ret w (.bool (sameR l x y))) := by
  have hout : (pB (BdsOk l) = false ∨ pB (IsName x) = false ∨ pB (IsName y) = false) → sameR l x y = false := fun h => sameR_out (fun k => by
    rcases h with h | h | h
    · exact pB_false h k.1
    · exact pB_false h k.2.1
    · exact pB_false h k.2.2)
  have hin : pB (BdsOk l) = true → pB (IsName x) = true → pB (IsName y) = true → sameR l x y = refB (findR l x) (findR l y) x y := fun h1 h2 h3 => sameR_in (pB_iff.1 h1) (pB_iff.1 h2) (pB_iff.1 h3)
  have HO := Lib.hid hout
  have HIN := Lib.hid hin
  have HR := Lib.hid (fun W (hb : Below w.heap.size w W) => Kd.C_below hr hb)
  have HX := Lib.hid hx
  have HY := Lib.hid hy
  have HS := Lib.hid hs
  clear hout hin hr hx hy hs
  generalize sameR l x y = r at HO HIN ⊢
  go_enter Try.func14, Try.ntmps14
  go_wp2_with fail
  refine (implBinds_any l A c _ (HR.out _ (below_step (below_new _ _) (below_new _ _))) hc (fun b hb => by have := (HS.out.2 b hb).1; omega)).mono ?_
  rintro e w1 ⟨rfl, hb⟩
  obtain ⟨k0, k1, b1⟩ := two_new hb
  have K0 := Lib.hid k0
  have K1 := Lib.hid k1
  have B1 := Lib.hid b1
  clear hb k0 k1 b1
  rcases hv : pB (BdsOk l) with _ | _
  · have HE := Lib.hid (HO.out (.inl hv))
    clear hv
    go_wp2_with fail
    go_ret
    exact ⟨ret_b HE.out.symm, B1.out⟩
  have HV := Lib.hid hv
  clear hv
  obtain ⟨p0, p1, p2, p3, p4⟩ := fm_cells K0.out
  go_wp2_with fail
  clear p0 p1 p2 p3 p4
  refine (isName_any x A3 c3 A4 c4 w1 (HX.out.below B1.out) tx).mono ?_
  rintro e w2 ⟨rfl, hb⟩
  replace K0 := Lib.hid (blk_below K0.out hb)
  replace K1 := Lib.hid (blk_below K1.out hb)
  replace B1 := Lib.hid (below_step B1.out hb)
  clear hb
  rcases hn : pB (IsName x) with _ | _
  · have HE := Lib.hid (HO.out (.inr (.inl hn)))
    clear hn
    go_wp2_with fail
    go_ret
    exact ⟨ret_b HE.out.symm, B1.out⟩
  have HNX := Lib.hid hn
  clear hn
  obtain ⟨p0, p1, p2, p3, p4⟩ := fm_cells K1.out
  go_wp2_with fail
  clear p0 p1 p2 p3 p4
  refine (isName_any y B3 d3 B4 d4 w2 (HY.out.below B1.out) ty).mono ?_
  rintro e w3 ⟨rfl, hb⟩
  replace K0 := Lib.hid (blk_below K0.out hb)
  replace K1 := Lib.hid (blk_below K1.out hb)
  replace B1 := Lib.hid (below_step B1.out hb)
  clear hb
  rcases hm : pB (IsName y) with _ | _
  · have HE := Lib.hid (HO.out (.inr (.inr hm)))
    clear hm
    go_wp2_with fail
    go_ret
    exact ⟨ret_b HE.out.symm, B1.out⟩
  have HE0 := Lib.hid (HIN.out HV.out HNX.out hm)
  clear hm HO HIN HV HNX
  rcases hfx : findR l x with ⟨u, p⟩
  rcases hfy : findR l y with ⟨v, q⟩
  have hee := HE0.out
  rw [hfx, hfy] at hee
  have HE := Lib.hid hee
  have HFX := Lib.hid (implFind_any l A c x A3 c3 A4 c4 w3 (HR.out _ B1.out) hc (HX.out.below B1.out) HS.out tx)
  have HPX := Lib.hid hfx
  have HPY := Lib.hid hfy
  clear hee hfx hfy HE0
  obtain ⟨p0, p1, p2, p3, p4⟩ := fm_cells K0.out
  go_wp2_with fail
  clear p0 p1 p2 p3 p4
  refine HFX.out.mono ?_
  intro e w4 hret
  obtain ⟨rfl, hb⟩ := Ret2.b HPX.out hret
  replace K0 := Lib.hid (blk_below K0.out hb)
  replace K1 := Lib.hid (blk_below K1.out hb)
  replace B1 := Lib.hid (below_step B1.out hb)
  clear hb hret HFX HPX
  have HFY := Lib.hid (implFind_any l A c y B3 d3 B4 d4 w4 (HR.out _ B1.out) hc (HY.out.below B1.out) HS.out ty)
  obtain ⟨p0, p1, p2, p3, p4⟩ := fm_cells K1.out
  go_wp2_with fail
  clear p0 p1 p2 p3 p4
  refine HFY.out.mono ?_
  intro e w5 hret
  obtain ⟨rfl, hb⟩ := Ret2.b HPY.out hret
  replace K0 := Lib.hid (blk_below K0.out hb)
  replace K1 := Lib.hid (blk_below K1.out hb)
  replace B1 := Lib.hid (below_step B1.out hb)
  clear hb hret HFY HPY
  obtain ⟨p0, p1, p2, p3, p4⟩ := fm_cells K0.out
  obtain ⟨q0, q1, q2, q3, q4⟩ := fm_cells K1.out
  generalize ha : (p == 1) = a1 at *
  generalize hb : (q == 1) = a2 at *
  generalize hc2 : (u == v) = a3 at *
  generalize hd : (p == 0) = a4 at *
  generalize he : (q == 0) = a5 at *
  generalize hg : (x.f1.toList == y.f1.toList) = a6 at *
  have HAll := Lib.hid (And.intro ha (And.intro hb (And.intro hc2 (And.intro hd (And.intro he hg)))))
  have hval : r = ((a1 && a2 && a3) || (a4 && a5 && a6)) := by
    rw [HE.out]
    unfold refB
    simp only [ha, hb, hc2, hd, he]
    rw [← hg]
    congr 2
    rw [Bool.eq_iff_iff]
    simp
  have HVAL := Lib.hid hval
  clear hval HE
  cases a1 <;> cases a2 <;> cases a3 <;> cases a4 <;> cases a5 <;> cases a6 <;> (go_wp2_with fail; go_ret; exact ⟨ret_b HVAL.out.symm, B1.out⟩)
theorem specSameRef_any (l : List Bd) (A : Option Addr) (c : Nat) (x : Fm) (A3 : Option Addr) (c3 : Nat) (A4 : Option Addr) (c4 : Nat) (y : Fm) (B3 : Option Addr) (d3 : Nat) (B4 : Option Addr) (d4 : Nat) (w : World) (hr : kB.C w A l.length l) (hc : l.length ≤ c) (hx : FmIn w x A3 c3 A4 c4) (hy : FmIn w y B3 d3 B4 d4) (hs : SmB l) (tx : x.tot ≤ 1048576) (ty : y.tot ≤ 1048576) :
    Calls Try.prog 13 #[.slice A l.length c, .agg #[.int .i64 x.f0, .string x.f1, .int .i64 x.f2, .slice A3 x.f3.length c3, .slice A4 x.f4.length c4], .agg #[.int .i64 y.f0, .string y.f1, .int .i64 y.f2, .slice B3 y.f3.length d3, .slice B4 y.f4.length d4]] w (Ret w (.bool (sameR l x y))) := by
  obtain ⟨k, hk⟩ := (ev_sameRef hs tx ty).rounds
  exact Q.spec_SameReference.calls k A c l x.f0 x.f1 x.f2 A3 c3 x.f3 A4 c4 x.f4 y.f0 y.f1 y.f2 B3 d3 y.f3 B4 d4 y.f4 _ w hr hc hx.g3 hx.l3 hx.g4 hx.l4 hy.g3 hy.l3 hy.g4 hy.l4 hk
end Go.Proofs.Ytnjfmpmoaaahlaa
end
