/- Written by mp.py out of the translation's print: what functions compute, and that the machine's calls come to it. -/
import Derived.Test.YtlghpblifbaciaaQ0
import Derived.Test.YtlghpblifbaciaaQ6
import Derived.Test.YtlghpblifbaciaaGA
namespace Go.Proofs.Ytlghpblifbaciaa.Q
open Go.RowKit Go.Proofs.YtlghpblifbaciaaW.PrintWords Go.Proofs.YtlghpblifbaciaaW.PrintLast Go.Proofs.YtlghpblifbaciaaW.PrintMore
attribute [local go_sem] max2_int min2_int max_two min_two max_three min_three max_four min_four   -- for this text's walks alone
set_option linter.unusedVariables false
set_option linter.unusedSimpArgs false

/-! ### laws_FnFormSize: function 5 -/
noncomputable def laws_FnFormSize.l0 : Nat → Int → Int → Int → Int → ByteArray → Int → List Int → List (S31) → Option (Bool)
  | 0, _, _, _, _, _, _, _, _ => none
  | k + 1, x4, x5, x6, x358000, x358001, x358002, x358003, x358004 => if x6 < (x358004.length : Int) then (if 0 ≤ x6 then ((impl_FormSize.f ((rd_T31 x358004 x6).f0) ((rd_T31 x358004 x6).f1) ((rd_T31 x358004 x6).f2) ((rd_T31 x358004 x6).f3) ((rd_T31 x358004 x6).f4)).bind fun t361 => (laws_FnFormSize.l0 k x4 (wrap64 (x5 + t361)) (wrap64 (x6 + 1)) x358000 x358001 x358002 x358003 x358004)) else (none)) else (some (x4 == x5))
noncomputable def laws_FnFormSize.f (k : Nat) (l0 : List Int) : Option (Bool) := if (l0.length : Int) > 1048576 then (some true) else ((spec_DrawFormSize.f k l0).bind fun bt348 => ((impl_FormSize.f bt348.1 bt348.2.1 bt348.2.2.1 bt348.2.2.2.1 bt348.2.2.2.2).bind fun t358 => ((spec_FormSize.f bt348.1 bt348.2.1 bt348.2.2.1 bt348.2.2.2.1 bt348.2.2.2.2).bind fun t359 => (if t358 = t359 then (laws_FnFormSize.l0 k t358 1 0 bt348.1 bt348.2.1 bt348.2.2.1 bt348.2.2.2.1 bt348.2.2.2.2) else (some false)))))
theorem laws_FnFormSize.mono_l : ∀ k, (∀ y0 y1 y2 y3 y4 y5 y6 y7, LeO (laws_FnFormSize.l0 k y0 y1 y2 y3 y4 y5 y6 y7) (laws_FnFormSize.l0 (k + 1) y0 y1 y2 y3 y4 y5 y6 y7))
  | 0 => fun _ _ _ _ _ _ _ _ r h => by simp [laws_FnFormSize.l0] at h
  | k + 1 => by
    have ih0 := laws_FnFormSize.mono_l k
    · intro y0 y1 y2 y3 y4 y5 y6 y7
      unfold laws_FnFormSize.l0
      repeat' first
      | (with_reducible exact ih0 _ _ _ _ _ _ _ _)
      | (with_reducible exact spec_DrawFormSize.mono _ _)
      | (with_reducible exact LeO.refl _)
      | (with_reducible exact LeO.none _)
      | (with_reducible refine LeO.ite ?_ ?_)
      | (with_reducible refine LeO.bind ?_ (fun _ => ?_))
      | exact ih0 _ _ _ _ _ _ _ _
      | exact spec_DrawFormSize.mono _ _
      | exact LeO.none _
      | refine LeO.ite ?_ ?_
      | refine LeO.bind ?_ (fun _ => ?_)
theorem laws_FnFormSize.mono : ∀ a0 k, LeO (laws_FnFormSize.f k a0) (laws_FnFormSize.f (k + 1) a0) := by
  intro a0 k
  have ih0 := laws_FnFormSize.mono_l k
  unfold laws_FnFormSize.f
  repeat' first
      | (with_reducible exact ih0 _ _ _ _ _ _ _ _)
      | (with_reducible exact spec_DrawFormSize.mono _ _)
      | (with_reducible exact LeO.refl _)
      | (with_reducible exact LeO.none _)
      | (with_reducible refine LeO.ite ?_ ?_)
      | (with_reducible refine LeO.bind ?_ (fun _ => ?_))
      | exact ih0 _ _ _ _ _ _ _ _
      | exact spec_DrawFormSize.mono _ _
      | exact LeO.none _
      | refine LeO.ite ?_ ?_
      | refine LeO.bind ?_ (fun _ => ?_)
set_option maxHeartbeats 8000000 in
set_option maxRecDepth 100000 in
theorem laws_FnFormSize.calls (k : Nat) (A0 : Option Addr) (c0 : Nat) (l0 : List Int) (r : Bool) (w : World) (hr0 : Kd.C (Kd.int .u8) w A0 l0.length l0) (hc0 : l0.length ≤ c0) (h : laws_FnFormSize.f k l0 = some r) :
    Calls Try.prog 5 #[.slice A0 l0.length c0] w fun e w' => e = .returned (.bool r) ∧ Below w.heap.size w w' := by
  have hu31 := Try.underlying31
  have HR0 := Aside0.mk hr0
  have HC0 := Aside0.mk hc0
  clear hr0 hc0
  have HB := Aside0.mk (Below.refl w.heap.size w)
  have H : (if (l0.length : Int) > 1048576 then (some true) else ((spec_DrawFormSize.f k l0).bind fun bt348 => ((impl_FormSize.f bt348.1 bt348.2.1 bt348.2.2.1 bt348.2.2.2.1 bt348.2.2.2.2).bind fun t358 => ((spec_FormSize.f bt348.1 bt348.2.1 bt348.2.2.1 bt348.2.2.2.1 bt348.2.2.2.2).bind fun t359 => (if t358 = t359 then (laws_FnFormSize.l0 k t358 1 0 bt348.1 bt348.2.1 bt348.2.2.1 bt348.2.2.2.1 bt348.2.2.2.2) else (some false)))))) = some r := h
  clear h
  by_cases c2 : (l0.length : Int) > 1048576
  · rw [if_pos c2] at H
    have c2b0 : decide (1048576 < (l0.length : Int)) = true := decide_eq_true c2
    have c2b1 : decide (1048576 < l0.length) = true := decide_eq_true (by omega)
    clear c2
    obtain rfl := Option.some.inj H
    go_enter Try.func5, Try.ntmps5
    go_wp2
    go_ret
    exact ⟨by first | rfl | (simp [errW_none, errW_some] <;> rfl) | (simp [*, errW_none, errW_some] <;> rfl), by repeat (first | (with_reducible first | exact HB.out | apply below_alloc | apply pw_below_drewN | apply below_drew1) | exact HB.out)⟩
  · rw [if_neg c2] at H
    have c2b0 : decide (1048576 < (l0.length : Int)) = false := decide_eq_false c2
    have c2b1 : decide (1048576 < l0.length) = false := decide_eq_false (by omega)
    clear c2
    replace H := Option.bind_eq_some_iff.mp H
    obtain ⟨⟨t348, t349, t350, t351, t354⟩, A30, H⟩ := H
    replace H : ((impl_FormSize.f t348 t349 t350 t351 t354).bind fun t358 => ((spec_FormSize.f t348 t349 t350 t351 t354).bind fun t359 => (if t358 = t359 then (laws_FnFormSize.l0 k t358 1 0 t348 t349 t350 t351 t354) else (some false)))) = some r := H
    have A3 := Aside0.mk A30
    clear A30
    replace H := Option.bind_eq_some_iff.mp H
    obtain ⟨t358, A40, H⟩ := H
    replace H : ((spec_FormSize.f t348 t349 t350 t351 t354).bind fun t359 => (if t358 = t359 then (laws_FnFormSize.l0 k t358 1 0 t348 t349 t350 t351 t354) else (some false))) = some r := H
    have A4 := Aside0.mk A40
    clear A40
    replace H := Option.bind_eq_some_iff.mp H
    obtain ⟨t359, A50, H⟩ := H
    replace H : (if t358 = t359 then (laws_FnFormSize.l0 k t358 1 0 t348 t349 t350 t351 t354) else (some false)) = some r := H
    have A5 := Aside0.mk A50
    clear A50
    by_cases c6 : t358 = t359
    · rw [if_pos c6] at H
      have c6b0 : (t358 == t359) = true := beq_iff_eq.mpr c6
      have c6b1 : (t358 != t359) = false := bne_eq_false_iff_eq.mpr c6
      clear c6
      have H' := Aside0.mk H
      clear H
      go_enter Try.func5, Try.ntmps5
      go_wp2_with (first | ((with_reducible refine gate_callee (f := 38) rfl ?_); refine goesL_ (some 11) rfl rfl Try.func38 (by kernel_rfl) rfl #[.slice A0 l0.length c0] rfl (by (try simp only [List.map_toArray, List.map_cons, List.map_nil]); first | done | rfl | (simp only [List.length_drop, List.length_take]; rfl)) ?_; (with_reducible refine (spec_DrawFormSize.calls k _ _ l0 t348 t349 t350 t351 t354 _ ?side1 ?side2 A3.out).mono ?_); (case side1 => repeat (first | exact HR0.out | (with_reducible refine Kd.C_alloc ?_ _) | (with_reducible refine Kd.C_drewN ?_ _) | (with_reducible refine Kd.C_drew ?_))); (case side2 => exact HC0.out); rintro e w7 ⟨v352, v355, rfl, ho0, ho1, hb⟩; refine ⟨_, rfl, ?_⟩; have n0_ := Aside0.mk (Kd.R_lower (Kd.R_mono (ok' := fun k_ => True) ho0 (fun _ hk_ => trivial)) (below_size (by repeat (first | (with_reducible first | exact HB.out | apply below_alloc | apply pw_below_drewN | apply below_drew1) | exact HB.out)))); have n1_ := Aside0.mk (Kd.N_lower (Kd.N_mono (ok' := fun k_ => some k_ ≠ (v352 : Value).ownBlock) ho1 (fun k_ hk_ => hk_.2)) (below_size (by repeat (first | (with_reducible first | exact HB.out | apply below_alloc | apply pw_below_drewN | apply below_drew1) | exact HB.out)))); have n2_ := Aside0.mk (below_step (by repeat (first | (with_reducible first | exact HB.out | apply below_alloc | apply pw_below_drewN | apply below_drew1) | exact HB.out)) hb); clear HB; have HO353 := n0_; have HO356 := n1_; have HB := n2_; clear n0_ n1_ n2_; (try clear hb); (try clear hb2); (try clear hk); (try clear hi); (try clear ho0); (try clear ho1)) | ((with_reducible refine gate_dst (N := 3) rfl ?_); refine box_event ?hg (N := 3) ?hd (cs := #[.int .i64 0, .string (⟨#[]⟩ : ByteArray), .int .i64 0, .slice none 0 0, .slice none 0 0]) (t := 31) ?hr ?_; (case hd => rfl); (case hg => rfl); (case hr => first | (go_simp; done) | (go_simp; rfl)); intro gb357 hg w8 hbox hb; have n0_ := Aside0.mk (Kd.R_below (by (with_reducible repeat (first | apply Kd.R_alloc | apply Kd.R_drewN | apply Kd.R_drew)); exact HO353.out) hb); have n1_ := Aside0.mk (Kd.N_below (Kd.N_elderB (by (with_reducible repeat (first | apply Kd.N_alloc | apply Kd.N_drewN | apply Kd.N_drew)); exact HO356.out) gb357 (Nat.le_of_eq hg.symm)) hb); have n2_ := Aside0.mk (below_step (by repeat (first | (with_reducible first | exact HB.out | apply below_alloc | apply pw_below_drewN | apply below_drew1) | exact HB.out)) hb); have n3_ := Aside0.mk (hbox); have n4_ := Aside0.mk ((by rw [hg]; exact (below_size (by repeat (first | (with_reducible first | exact HB.out | apply below_alloc | apply pw_below_drewN | apply below_drew1) | exact HB.out))) : w.heap.size ≤ gb357)); have n5_ := Aside0.mk ((by rw [hg]; exact (below_size (by repeat (first | (with_reducible first | exact HB.out | apply below_alloc | apply pw_below_drewN | apply below_drew1) | exact HB.out))) : w.heap.size ≤ gb357)); clear HO353; clear HO356; clear HB; have HO353 := n0_; have HO356 := n1_; have HB := n2_; have BK357 := n3_; have GW357 := n4_; have GE357 := n5_; clear n0_ n1_ n2_ n3_ n4_ n5_; clear hb hbox hg; have hcz9_0 : w8.cell? ⟨gb357, 0, none⟩ = some (.int .i64 0) := (blk_cell BK357.out 0).trans rfl; have hcz9_1 : w8.cell? ⟨gb357, 1, none⟩ = some (.string (⟨#[]⟩ : ByteArray)) := (blk_cell BK357.out 1).trans rfl; have hcz9_2 : w8.cell? ⟨gb357, 2, none⟩ = some (.int .i64 0) := (blk_cell BK357.out 2).trans rfl; have hcz9_3 : w8.cell? ⟨gb357, 3, none⟩ = some (.slice none 0 0) := (blk_cell BK357.out 3).trans rfl; have hcz9_4 : w8.cell? ⟨gb357, 4, none⟩ = some (.slice none 0 0) := (blk_cell BK357.out 4).trans rfl; have hfz9_0 := blk_frozen BK357.out 0; have hfz9_1 := blk_frozen BK357.out 1; have hfz9_2 := blk_frozen BK357.out 2; have hfz9_3 := blk_frozen BK357.out 3; have hfz9_4 := blk_frozen BK357.out 4; obtain ⟨Ao10, co10, eo10⟩ := Kd.R_slice HO353.out; subst eo10; obtain ⟨Ao11, co11, eo11⟩ := Kd.N_slice HO356.out; subst eo11) | ((with_reducible refine gate_callee (f := 39) rfl ?_); refine goesL_ (some 13) rfl rfl Try.func39 (by kernel_rfl) rfl #[.agg #[.int .i64 t348, .string t349, .int .i64 t350, .slice Ao10 t351.length co10, .slice Ao11 t354.length co11]] rfl (by (try simp only [List.map_toArray, List.map_cons, List.map_nil]); first | done | rfl | (simp only [List.length_drop, List.length_take]; rfl)) ?_; (with_reducible refine (impl_FormSize.calls t348 t349 t350 _ _ t351 _ _ t354 t358 _ ?side1 ?side2 ?side3 ?side4 A4.out).mono ?_); (case side1 => refine (Kd.R_reads' (e := 3) (base := w.heap.size) (ok := fun k_ => True) (n := t351.length) (c := co10) ?_).2.2; exact (by (with_reducible repeat (first | apply Kd.R_alloc | apply Kd.R_drewN | apply Kd.R_drew)); exact (Kd.R_mono (Kd.R_far (p := ⟨gb357, 4, none⟩) (Kd.R_far (p := ⟨gb357, 3, none⟩) (Kd.R_far (p := ⟨gb357, 2, none⟩) (Kd.R_far (p := ⟨gb357, 1, none⟩) (Kd.R_far (p := ⟨gb357, 0, none⟩) (Kd.R_types HO353.out BK357.out (by decide)) (fun _ hk => hk.2) (.int .i64 t348)) (fun _ hk => hk.2) (.string t349)) (fun _ hk => hk.2) (.int .i64 t350)) (fun _ hk => hk.2) (.slice Ao10 t351.length co10)) (fun _ hk => hk.2) (.slice Ao11 t354.length co11)) (fun _ h_ => h_.1)))); (case side2 => exact (Kd.R_reads' HO353.out).2.1); (case side3 => refine (Kd.N_reads' (e := 31) (base := w.heap.size) (ok := fun k_ => (some k_ ≠ (.slice Ao10 t351.length co10 : Value).ownBlock ∧ k_ ≠ gb357)) (n := t354.length) (c := co11) ?_).2.2; exact (by (with_reducible repeat (first | apply Kd.N_alloc | apply Kd.N_drewN | apply Kd.N_drew)); exact (Kd.N_mono (Kd.N_far (p := ⟨gb357, 4, none⟩) (Kd.N_far (p := ⟨gb357, 3, none⟩) (Kd.N_far (p := ⟨gb357, 2, none⟩) (Kd.N_far (p := ⟨gb357, 1, none⟩) (Kd.N_far (p := ⟨gb357, 0, none⟩) (Kd.N_mono HO356.out (fun k_ hk => (⟨hk, hk.2⟩ : _ ∧ k_ ≠ gb357))) (fun _ hk => hk.2) (.int .i64 t348)) (fun _ hk => hk.2) (.string t349)) (fun _ hk => hk.2) (.int .i64 t350)) (fun _ hk => hk.2) (.slice Ao10 t351.length co10)) (fun _ hk => hk.2) (.slice Ao11 t354.length co11)) (fun _ h_ => h_.1)))); (case side4 => exact (Kd.N_reads' HO356.out).2.1); rintro e w12 ⟨rfl, hb⟩; refine ⟨_, rfl, ?_⟩; have n0_ := Aside0.mk (Kd.R_below (by (with_reducible repeat (first | apply Kd.R_alloc | apply Kd.R_drewN | apply Kd.R_drew)); exact (Kd.R_mono (Kd.R_far (p := ⟨gb357, 4, none⟩) (Kd.R_far (p := ⟨gb357, 3, none⟩) (Kd.R_far (p := ⟨gb357, 2, none⟩) (Kd.R_far (p := ⟨gb357, 1, none⟩) (Kd.R_far (p := ⟨gb357, 0, none⟩) (Kd.R_types HO353.out BK357.out (by decide)) (fun _ hk => hk.2) (.int .i64 t348)) (fun _ hk => hk.2) (.string t349)) (fun _ hk => hk.2) (.int .i64 t350)) (fun _ hk => hk.2) (.slice Ao10 t351.length co10)) (fun _ hk => hk.2) (.slice Ao11 t354.length co11)) (fun _ h_ => h_.1))) hb); have n1_ := Aside0.mk (Kd.N_below (by (with_reducible repeat (first | apply Kd.N_alloc | apply Kd.N_drewN | apply Kd.N_drew)); exact (Kd.N_mono (Kd.N_far (p := ⟨gb357, 4, none⟩) (Kd.N_far (p := ⟨gb357, 3, none⟩) (Kd.N_far (p := ⟨gb357, 2, none⟩) (Kd.N_far (p := ⟨gb357, 1, none⟩) (Kd.N_far (p := ⟨gb357, 0, none⟩) (Kd.N_mono HO356.out (fun k_ hk => (⟨hk, hk.2⟩ : _ ∧ k_ ≠ gb357))) (fun _ hk => hk.2) (.int .i64 t348)) (fun _ hk => hk.2) (.string t349)) (fun _ hk => hk.2) (.int .i64 t350)) (fun _ hk => hk.2) (.slice Ao10 t351.length co10)) (fun _ hk => hk.2) (.slice Ao11 t354.length co11)) (fun _ h_ => h_.1))) hb); have n2_ := Aside0.mk (blk_below (g := gb357) (o := .cells #[.int .i64 t348, .string t349, .int .i64 t350, .slice Ao10 t351.length co10, .slice Ao11 t354.length co11] 31 (0, 0)) (by (with_reducible repeat (first | refine blk_drewN ?_ _ | refine blk_drew ?_ | refine blk_alloc ?_ _)); refine blk_put (cs := #[.int .i64 t348, .string t349, .int .i64 t350, .slice Ao10 t351.length co10, .slice none 0 0]) ?_ 4 _ rfl; (with_reducible repeat (first | refine blk_drewN ?_ _ | refine blk_drew ?_ | refine blk_alloc ?_ _)); refine blk_put (cs := #[.int .i64 t348, .string t349, .int .i64 t350, .slice none 0 0, .slice none 0 0]) ?_ 3 _ rfl; (with_reducible repeat (first | refine blk_drewN ?_ _ | refine blk_drew ?_ | refine blk_alloc ?_ _)); refine blk_put (cs := #[.int .i64 t348, .string t349, .int .i64 0, .slice none 0 0, .slice none 0 0]) ?_ 2 _ rfl; (with_reducible repeat (first | refine blk_drewN ?_ _ | refine blk_drew ?_ | refine blk_alloc ?_ _)); refine blk_put (cs := #[.int .i64 t348, .string (⟨#[]⟩ : ByteArray), .int .i64 0, .slice none 0 0, .slice none 0 0]) ?_ 1 _ rfl; (with_reducible repeat (first | refine blk_drewN ?_ _ | refine blk_drew ?_ | refine blk_alloc ?_ _)); refine blk_put (cs := #[.int .i64 0, .string (⟨#[]⟩ : ByteArray), .int .i64 0, .slice none 0 0, .slice none 0 0]) ?_ 0 _ rfl; (with_reducible repeat (first | refine blk_drewN ?_ _ | refine blk_drew ?_ | refine blk_alloc ?_ _)); exact BK357.out) hb); have n3_ := Aside0.mk (below_step (by repeat (first | (with_reducible first | exact HB.out | apply below_alloc | apply pw_below_drewN | apply below_drew1 | refine below_set ?_ GE357.out) | exact HB.out)) hb); clear HO353; clear HO356; clear BK357; clear HB; have HO353 := n0_; have HO356 := n1_; have BK357 := n2_; have HB := n3_; clear n0_ n1_ n2_ n3_; (try clear hb); (try clear hb2); (try clear hk); (try clear hi); have hcz13_0 : w12.cell? ⟨gb357, 0, none⟩ = some (.int .i64 t348) := (blk_cell BK357.out 0).trans rfl; have hcz13_1 : w12.cell? ⟨gb357, 1, none⟩ = some (.string t349) := (blk_cell BK357.out 1).trans rfl; have hcz13_2 : w12.cell? ⟨gb357, 2, none⟩ = some (.int .i64 t350) := (blk_cell BK357.out 2).trans rfl; have hcz13_3 : w12.cell? ⟨gb357, 3, none⟩ = some (.slice Ao10 t351.length co10) := (blk_cell BK357.out 3).trans rfl; have hcz13_4 : w12.cell? ⟨gb357, 4, none⟩ = some (.slice Ao11 t354.length co11) := (blk_cell BK357.out 4).trans rfl; have hfz13_0 := blk_frozen BK357.out 0; have hfz13_1 := blk_frozen BK357.out 1; have hfz13_2 := blk_frozen BK357.out 2; have hfz13_3 := blk_frozen BK357.out 3; have hfz13_4 := blk_frozen BK357.out 4) | ((with_reducible refine gate_callee (f := 40) rfl ?_); refine goesL_ (some 16) rfl rfl Try.func40 (by kernel_rfl) rfl #[.agg #[.int .i64 t348, .string t349, .int .i64 t350, .slice Ao10 t351.length co10, .slice Ao11 t354.length co11]] rfl (by (try simp only [List.map_toArray, List.map_cons, List.map_nil]); first | done | rfl | (simp only [List.length_drop, List.length_take]; rfl)) ?_; (with_reducible refine (spec_FormSize.calls t348 t349 t350 _ _ t351 _ _ t354 t359 _ ?side1 ?side2 ?side3 ?side4 A5.out).mono ?_); (case side1 => repeat (first | exact (Kd.R_reads' HO353.out).2.2 | (with_reducible refine Kd.C_alloc ?_ _) | (with_reducible refine Kd.C_drewN ?_ _) | (with_reducible refine Kd.C_drew ?_))); (case side2 => exact (Kd.R_reads' HO353.out).2.1); (case side3 => repeat (first | exact (Kd.N_reads' HO356.out).2.2 | (with_reducible refine Kd.C_alloc ?_ _) | (with_reducible refine Kd.C_drewN ?_ _) | (with_reducible refine Kd.C_drew ?_))); (case side4 => exact (Kd.N_reads' HO356.out).2.1); rintro e w14 ⟨rfl, hb⟩; refine ⟨_, rfl, ?_⟩; have n0_ := Aside0.mk (Kd.R_below (by (with_reducible repeat (first | apply Kd.R_alloc | apply Kd.R_drewN | apply Kd.R_drew)); exact HO353.out) hb); have n1_ := Aside0.mk (Kd.N_below (by (with_reducible repeat (first | apply Kd.N_alloc | apply Kd.N_drewN | apply Kd.N_drew)); exact HO356.out) hb); have n2_ := Aside0.mk (blk_below (g := gb357) (o := .cells #[.int .i64 t348, .string t349, .int .i64 t350, .slice Ao10 t351.length co10, .slice Ao11 t354.length co11] 31 (0, 0)) (by (with_reducible repeat (first | refine blk_drewN ?_ _ | refine blk_drew ?_ | refine blk_alloc ?_ _)); exact BK357.out) hb); have n3_ := Aside0.mk (below_step (by repeat (first | (with_reducible first | exact HB.out | apply below_alloc | apply pw_below_drewN | apply below_drew1 | refine below_set ?_ GE357.out) | exact HB.out)) hb); clear HO353; clear HO356; clear BK357; clear HB; have HO353 := n0_; have HO356 := n1_; have BK357 := n2_; have HB := n3_; clear n0_ n1_ n2_ n3_; (try clear hb); (try clear hb2); (try clear hk); (try clear hi)))
      go_loopg [5, 6] k (fun kq v5 v6 w' => ∃ (x5_1 : Int) (x6_1 : Int), v5 = .int .i64 x5_1 ∧ v6 = .int .i64 x6_1 ∧ Aside0 (laws_FnFormSize.l0 kq t358 x5_1 x6_1 t348 t349 t350 t351 t354 = some r) ∧ Aside0 (kq ≤ k) ∧ Aside0 (Kd.R (Kd.int .i64) 3 w' w.heap.size (fun _ => True) (.slice Ao10 t351.length co10) t351) ∧ Aside0 (Kd.N k31 31 w' w.heap.size (fun k_ => some k_ ≠ ((.slice Ao10 t351.length co10) : Value).ownBlock ∧ k_ ≠ gb357) (.slice Ao11 t354.length co11) t354) ∧ Aside0 (w'.heap[gb357]? = some (.cells #[.int .i64 t348, .string t349, .int .i64 t350, (.slice Ao10 t351.length co10), (.slice Ao11 t354.length co11)] 31 (0, 0))) ∧ Aside0 (Below w.heap.size w w'))
      case atStart => exact ⟨(1), (0), (by first | rfl | (simp; done) | (simp [*]; done)), (by first | rfl | (simp; done) | (simp [*]; done)), H', ⟨Nat.le_refl _⟩, ⟨by (with_reducible repeat (first | apply Kd.R_alloc | apply Kd.R_drewN | apply Kd.R_drew)); exact HO353.out⟩, ⟨by (with_reducible repeat (first | apply Kd.N_alloc | apply Kd.N_drewN | apply Kd.N_drew)); exact HO356.out⟩, ⟨by (with_reducible repeat (first | refine blk_drewN ?_ _ | refine blk_drew ?_ | refine blk_alloc ?_ _)); exact BK357.out⟩, ⟨by repeat (first | (with_reducible first | exact HB.out | apply below_alloc | apply pw_below_drewN | apply below_drew1 | refine below_set ?_ GE357.out) | exact HB.out)⟩⟩
      case round =>
        clear H'
        try clear c2
        try clear c2b0
        try clear c2b1
        try clear p2
        try clear c3
        try clear c4
        try clear c5
        try clear c6
        try clear c6b0
        try clear c6b1
        try clear hcz13_0
        try clear hcz13_1
        try clear hcz13_2
        try clear hcz13_3
        try clear hcz13_4
        try clear hcz9_0
        try clear hcz9_1
        try clear hcz9_2
        try clear hcz9_3
        try clear hcz9_4
        try clear hfz13_0
        try clear hfz13_1
        try clear hfz13_2
        try clear hfz13_3
        try clear hfz13_4
        try clear hfz9_0
        try clear hfz9_1
        try clear hfz9_2
        try clear hfz9_3
        try clear hfz9_4
        obtain ⟨x5_1, x6_1, rfl, rfl, HA, HK1, HO_358003, HO_358004, BK357, HB⟩ := hrel
        cases gk with
        | zero => exact absurd HA.out (by simp [laws_FnFormSize.l0])
        | succ k1 =>
          have H := HA.out
          clear HA
          simp only [laws_FnFormSize.l0] at H
          by_cases c15 : x6_1 < (t354.length : Int)
          · rw [if_pos c15] at H
            have c15b0 : decide (x6_1 < (t354.length : Int)) = true := decide_eq_true c15
            clear c15
            by_cases c16 : 0 ≤ x6_1
            · rw [if_pos c16] at H
              have c16b0 : decide (0 ≤ x6_1) = true := decide_eq_true c16
              clear c16
              replace H := Option.bind_eq_some_iff.mp H
              obtain ⟨t361, A170, H⟩ := H
              replace H : (laws_FnFormSize.l0 k1 t358 (wrap64 (x5_1 + t361)) (wrap64 (x6_1 + 1)) t348 t349 t350 t351 t354) = some r := H
              have A17 := Aside0.mk A170
              clear A170
              have H' := Aside0.mk H
              clear H
              have hcz18_0 : wr.cell? ⟨gb357, 0, none⟩ = some (.int .i64 t348) := (blk_cell BK357.out 0).trans rfl
              have hcz18_1 : wr.cell? ⟨gb357, 1, none⟩ = some (.string t349) := (blk_cell BK357.out 1).trans rfl
              have hcz18_2 : wr.cell? ⟨gb357, 2, none⟩ = some (.int .i64 t350) := (blk_cell BK357.out 2).trans rfl
              have hcz18_3 : wr.cell? ⟨gb357, 3, none⟩ = some (.slice Ao10 t351.length co10) := (blk_cell BK357.out 3).trans rfl
              have hcz18_4 : wr.cell? ⟨gb357, 4, none⟩ = some (.slice Ao11 t354.length co11) := (blk_cell BK357.out 4).trans rfl
              have hfz18_0 := blk_frozen BK357.out 0
              have hfz18_1 := blk_frozen BK357.out 1
              have hfz18_2 := blk_frozen BK357.out 2
              have hfz18_3 := blk_frozen BK357.out 3
              have hfz18_4 := blk_frozen BK357.out 4
              have p360 : 0 ≤ (x6_1 : Int) := of_decide_eq_true (by first | (with_reducible assumption) | assumption)
              have q360 : x6_1 < (t354.length : Int) := of_decide_eq_true (by first | (with_reducible assumption) | assumption)
              obtain ⟨ad360, A360_3, c360_3, A360_4, c360_4, e360, hx360_0, hx360_1, hx360_2, hx360_3, hx360_4, hl360_3, hi360_3, hl360_4, hi360_4⟩ := at_T31 (Kd.N_reads' HO_358004.out).2.2 x6_1 p360 q360
              cases e360
              obtain ⟨ce360, hce360, hMe360, hcc360⟩ := Kd.N_get HO_358004.out z31 x6_1 p360 (by first | exact q360 | exact of_decide_eq_true (by first | (with_reducible assumption) | assumption) | (have e_ := (Kd.N_reads' HO_358004.out).1; omega))
              obtain ⟨ua360_3, uc360_3, ua360_4, uc360_4, rfl, ul360_3, ge360_3, ul360_4, ge360_4⟩ := k31_openF hMe360
              have hv360_3 := hcc360 3 _ rfl
              rw [add_field _ _ 3 (by omega)] at hv360_3
              replace hv360_3 := Option.some.inj (hv360_3.symm.trans hx360_3)
              injection hv360_3 with hva_ hvn_ hvc_
              rw [hva_] at ge360_3
              rw [hvc_] at ul360_3
              have HL360_3 := Aside0.mk (show Kd.V (Kd.int .i64) 3 _ w.heap.size _ _ ((rd_T31 t354 x6_1).f3) from Kd.V_mk ul360_3 ge360_3)
              clear hva_ hvn_ hvc_ ge360_3 ul360_3
              have hv360_4 := hcc360 4 _ rfl
              rw [add_field _ _ 4 (by omega)] at hv360_4
              replace hv360_4 := Option.some.inj (hv360_4.symm.trans hx360_4)
              injection hv360_4 with hva_ hvn_ hvc_
              rw [hva_] at ge360_4
              rw [hvc_] at ul360_4
              have HL360_4 := Aside0.mk (show Kd.V k31 31 _ w.heap.size _ _ ((rd_T31 t354 x6_1).f4) from Kd.V_mk ul360_4 ge360_4)
              clear hva_ hvn_ hvc_ ge360_4 ul360_4
              clear hcc360 hce360
              have HR360_3 := Aside0.mk hi360_3
              have HC360_3 := Aside0.mk hl360_3
              clear hi360_3 hl360_3
              have HR360_4 := Aside0.mk hi360_4
              have HC360_4 := Aside0.mk hl360_4
              clear hi360_4 hl360_4
              replace p360 := eq_true p360
              replace q360 := eq_true q360
              go_wp2_with (first | ((with_reducible refine gate_callee (f := 39) rfl ?_); refine goesL_ (some 31) rfl rfl Try.func39 (by kernel_rfl) rfl #[.agg #[.int .i64 ((rd_T31 t354 x6_1).f0), .string ((rd_T31 t354 x6_1).f1), .int .i64 ((rd_T31 t354 x6_1).f2), .slice A360_3 ((rd_T31 t354 x6_1).f3).length c360_3, .slice A360_4 ((rd_T31 t354 x6_1).f4).length c360_4]] rfl (by (try simp only [List.map_toArray, List.map_cons, List.map_nil]); first | done | rfl | (simp only [List.length_drop, List.length_take]; rfl)) ?_; (with_reducible refine (impl_FormSize.calls ((rd_T31 t354 x6_1).f0) ((rd_T31 t354 x6_1).f1) ((rd_T31 t354 x6_1).f2) _ _ ((rd_T31 t354 x6_1).f3) _ _ ((rd_T31 t354 x6_1).f4) t361 _ ?side1 ?side2 ?side3 ?side4 A17.out).mono ?_); (case side1 => repeat (first | exact (by repeat (first | (with_reducible exact HR360_3.out) | (with_reducible refine Kd.C_alloc ?_ _) | (with_reducible refine Kd.C_drewN ?_ _) | (with_reducible refine Kd.C_drew ?_) | exact HR360_3.out)) | (with_reducible refine Kd.C_alloc ?_ _) | (with_reducible refine Kd.C_drewN ?_ _) | (with_reducible refine Kd.C_drew ?_))); (case side2 => exact HC360_3.out); (case side3 => repeat (first | exact (by repeat (first | (with_reducible exact HR360_4.out) | (with_reducible refine Kd.C_alloc ?_ _) | (with_reducible refine Kd.C_drewN ?_ _) | (with_reducible refine Kd.C_drew ?_) | exact HR360_4.out)) | (with_reducible refine Kd.C_alloc ?_ _) | (with_reducible refine Kd.C_drewN ?_ _) | (with_reducible refine Kd.C_drew ?_))); (case side4 => exact HC360_4.out); rintro e w19 ⟨rfl, hb⟩; refine ⟨_, rfl, ?_⟩; have n0_ := Aside0.mk (Kd.R_below (by (with_reducible repeat (first | apply Kd.R_alloc | apply Kd.R_drewN | apply Kd.R_drew)); exact HO_358003.out) hb); have n1_ := Aside0.mk (Kd.N_below (by (with_reducible repeat (first | apply Kd.N_alloc | apply Kd.N_drewN | apply Kd.N_drew)); exact HO_358004.out) hb); have n2_ := Aside0.mk (Kd.V_below (by (with_reducible repeat (first | apply Kd.V_alloc | apply Kd.V_drewN | apply Kd.V_drew)); exact HL360_3.out) hb); have n3_ := Aside0.mk (Kd.V_below (by (with_reducible repeat (first | apply Kd.V_alloc | apply Kd.V_drewN | apply Kd.V_drew)); exact HL360_4.out) hb); have n4_ := Aside0.mk (blk_below (g := gb357) (o := .cells #[.int .i64 t348, .string t349, .int .i64 t350, .slice Ao10 t351.length co10, .slice (some ad360) t354.length co11] 31 (0, 0)) (by (with_reducible repeat (first | refine blk_drewN ?_ _ | refine blk_drew ?_ | refine blk_alloc ?_ _)); exact BK357.out) hb); have n5_ := Aside0.mk (Kd.C_below (by repeat (first | (with_reducible exact HR360_3.out) | (with_reducible refine Kd.C_alloc ?_ _) | (with_reducible refine Kd.C_drewN ?_ _) | (with_reducible refine Kd.C_drew ?_) | exact HR360_3.out)) hb); have n6_ := Aside0.mk (Kd.C_below (by repeat (first | (with_reducible exact HR360_4.out) | (with_reducible refine Kd.C_alloc ?_ _) | (with_reducible refine Kd.C_drewN ?_ _) | (with_reducible refine Kd.C_drew ?_) | exact HR360_4.out)) hb); have n7_ := Aside0.mk (below_step (by repeat (first | (with_reducible first | exact HB.out | apply below_alloc | apply pw_below_drewN | apply below_drew1 | refine below_set ?_ GE357.out) | exact HB.out)) hb); clear HO_358003; clear HO_358004; clear HL360_3; clear HL360_4; clear BK357; clear HR360_3; clear HR360_4; clear HB; have HO_358003 := n0_; have HO_358004 := n1_; have HL360_3 := n2_; have HL360_4 := n3_; have BK357 := n4_; have HR360_3 := n5_; have HR360_4 := n6_; have HB := n7_; clear n0_ n1_ n2_ n3_ n4_ n5_ n6_ n7_; (try clear hb); (try clear hb2); (try clear hk); (try clear hi)))
              go_roundg k1
              case measure => have := HK1.out; omega
              case rel => exact ⟨(wrap64 (x5_1 + t361)), (wrap64 (x6_1 + 1)), (by first | rfl | (simp; done) | (simp [*]; done)), (by first | rfl | (simp; done) | (simp [*]; done)), H', ⟨by have := HK1.out; omega⟩, ⟨by (with_reducible repeat (first | apply Kd.R_alloc | apply Kd.R_drewN | apply Kd.R_drew)); exact HO_358003.out⟩, ⟨by (with_reducible repeat (first | apply Kd.N_alloc | apply Kd.N_drewN | apply Kd.N_drew)); exact HO_358004.out⟩, ⟨by (with_reducible repeat (first | refine blk_drewN ?_ _ | refine blk_drew ?_ | refine blk_alloc ?_ _)); exact BK357.out⟩, ⟨by repeat (first | (with_reducible first | exact HB.out | apply below_alloc | apply pw_below_drewN | apply below_drew1 | refine below_set ?_ GE357.out) | exact HB.out)⟩⟩
            · rw [if_neg c16] at H
              exact absurd H (by simp)
          · rw [if_neg c15] at H
            have c15b0 : decide (x6_1 < (t354.length : Int)) = false := decide_eq_false c15
            clear c15
            obtain rfl := Option.some.inj H
            have hcz20_0 : wr.cell? ⟨gb357, 0, none⟩ = some (.int .i64 t348) := (blk_cell BK357.out 0).trans rfl
            have hcz20_1 : wr.cell? ⟨gb357, 1, none⟩ = some (.string t349) := (blk_cell BK357.out 1).trans rfl
            have hcz20_2 : wr.cell? ⟨gb357, 2, none⟩ = some (.int .i64 t350) := (blk_cell BK357.out 2).trans rfl
            have hcz20_3 : wr.cell? ⟨gb357, 3, none⟩ = some (.slice Ao10 t351.length co10) := (blk_cell BK357.out 3).trans rfl
            have hcz20_4 : wr.cell? ⟨gb357, 4, none⟩ = some (.slice Ao11 t354.length co11) := (blk_cell BK357.out 4).trans rfl
            have hfz20_0 := blk_frozen BK357.out 0
            have hfz20_1 := blk_frozen BK357.out 1
            have hfz20_2 := blk_frozen BK357.out 2
            have hfz20_3 := blk_frozen BK357.out 3
            have hfz20_4 := blk_frozen BK357.out 4
            go_wp2
            go_ret
            exact ⟨by first | rfl | (simp [errW_none, errW_some] <;> rfl) | (simp [*, errW_none, errW_some] <;> rfl), by repeat (first | (with_reducible first | exact HB.out | apply below_alloc | apply pw_below_drewN | apply below_drew1 | refine below_set ?_ GE357.out) | exact HB.out)⟩
    · rw [if_neg c6] at H
      have c6b0 : (t358 == t359) = false := beq_eq_false_iff_ne.mpr c6
      have c6b1 : (t358 != t359) = true := bne_iff_ne.mpr c6
      obtain rfl := Option.some.inj H
      go_enter Try.func5, Try.ntmps5
      go_wp2_with (first | ((with_reducible refine gate_callee (f := 38) rfl ?_); refine goesL_ (some 11) rfl rfl Try.func38 (by kernel_rfl) rfl #[.slice A0 l0.length c0] rfl (by (try simp only [List.map_toArray, List.map_cons, List.map_nil]); first | done | rfl | (simp only [List.length_drop, List.length_take]; rfl)) ?_; (with_reducible refine (spec_DrawFormSize.calls k _ _ l0 t348 t349 t350 t351 t354 _ ?side1 ?side2 A3.out).mono ?_); (case side1 => repeat (first | exact HR0.out | (with_reducible refine Kd.C_alloc ?_ _) | (with_reducible refine Kd.C_drewN ?_ _) | (with_reducible refine Kd.C_drew ?_))); (case side2 => exact HC0.out); rintro e w21 ⟨v352, v355, rfl, ho0, ho1, hb⟩; refine ⟨_, rfl, ?_⟩; have n0_ := Aside0.mk (Kd.R_lower (Kd.R_mono (ok' := fun k_ => True) ho0 (fun _ hk_ => trivial)) (below_size (by repeat (first | (with_reducible first | exact HB.out | apply below_alloc | apply pw_below_drewN | apply below_drew1) | exact HB.out)))); have n1_ := Aside0.mk (Kd.N_lower (Kd.N_mono (ok' := fun k_ => some k_ ≠ (v352 : Value).ownBlock) ho1 (fun k_ hk_ => hk_.2)) (below_size (by repeat (first | (with_reducible first | exact HB.out | apply below_alloc | apply pw_below_drewN | apply below_drew1) | exact HB.out)))); have n2_ := Aside0.mk (below_step (by repeat (first | (with_reducible first | exact HB.out | apply below_alloc | apply pw_below_drewN | apply below_drew1) | exact HB.out)) hb); clear HB; have HO353 := n0_; have HO356 := n1_; have HB := n2_; clear n0_ n1_ n2_; (try clear hb); (try clear hb2); (try clear hk); (try clear hi); (try clear ho0); (try clear ho1)) | ((with_reducible refine gate_dst (N := 3) rfl ?_); refine box_event ?hg (N := 3) ?hd (cs := #[.int .i64 0, .string (⟨#[]⟩ : ByteArray), .int .i64 0, .slice none 0 0, .slice none 0 0]) (t := 31) ?hr ?_; (case hd => rfl); (case hg => rfl); (case hr => first | (go_simp; done) | (go_simp; rfl)); intro gb357 hg w22 hbox hb; have n0_ := Aside0.mk (Kd.R_below (by (with_reducible repeat (first | apply Kd.R_alloc | apply Kd.R_drewN | apply Kd.R_drew)); exact HO353.out) hb); have n1_ := Aside0.mk (Kd.N_below (Kd.N_elderB (by (with_reducible repeat (first | apply Kd.N_alloc | apply Kd.N_drewN | apply Kd.N_drew)); exact HO356.out) gb357 (Nat.le_of_eq hg.symm)) hb); have n2_ := Aside0.mk (below_step (by repeat (first | (with_reducible first | exact HB.out | apply below_alloc | apply pw_below_drewN | apply below_drew1) | exact HB.out)) hb); have n3_ := Aside0.mk (hbox); have n4_ := Aside0.mk ((by rw [hg]; exact (below_size (by repeat (first | (with_reducible first | exact HB.out | apply below_alloc | apply pw_below_drewN | apply below_drew1) | exact HB.out))) : w.heap.size ≤ gb357)); have n5_ := Aside0.mk ((by rw [hg]; exact (below_size (by repeat (first | (with_reducible first | exact HB.out | apply below_alloc | apply pw_below_drewN | apply below_drew1) | exact HB.out))) : w.heap.size ≤ gb357)); clear HO353; clear HO356; clear HB; have HO353 := n0_; have HO356 := n1_; have HB := n2_; have BK357 := n3_; have GW357 := n4_; have GE357 := n5_; clear n0_ n1_ n2_ n3_ n4_ n5_; clear hb hbox hg; have hcz23_0 : w22.cell? ⟨gb357, 0, none⟩ = some (.int .i64 0) := (blk_cell BK357.out 0).trans rfl; have hcz23_1 : w22.cell? ⟨gb357, 1, none⟩ = some (.string (⟨#[]⟩ : ByteArray)) := (blk_cell BK357.out 1).trans rfl; have hcz23_2 : w22.cell? ⟨gb357, 2, none⟩ = some (.int .i64 0) := (blk_cell BK357.out 2).trans rfl; have hcz23_3 : w22.cell? ⟨gb357, 3, none⟩ = some (.slice none 0 0) := (blk_cell BK357.out 3).trans rfl; have hcz23_4 : w22.cell? ⟨gb357, 4, none⟩ = some (.slice none 0 0) := (blk_cell BK357.out 4).trans rfl; have hfz23_0 := blk_frozen BK357.out 0; have hfz23_1 := blk_frozen BK357.out 1; have hfz23_2 := blk_frozen BK357.out 2; have hfz23_3 := blk_frozen BK357.out 3; have hfz23_4 := blk_frozen BK357.out 4; obtain ⟨Ao24, co24, eo24⟩ := Kd.R_slice HO353.out; subst eo24; obtain ⟨Ao25, co25, eo25⟩ := Kd.N_slice HO356.out; subst eo25) | ((with_reducible refine gate_callee (f := 39) rfl ?_); refine goesL_ (some 13) rfl rfl Try.func39 (by kernel_rfl) rfl #[.agg #[.int .i64 t348, .string t349, .int .i64 t350, .slice Ao24 t351.length co24, .slice Ao25 t354.length co25]] rfl (by (try simp only [List.map_toArray, List.map_cons, List.map_nil]); first | done | rfl | (simp only [List.length_drop, List.length_take]; rfl)) ?_; (with_reducible refine (impl_FormSize.calls t348 t349 t350 _ _ t351 _ _ t354 t358 _ ?side1 ?side2 ?side3 ?side4 A4.out).mono ?_); (case side1 => refine (Kd.R_reads' (e := 3) (base := w.heap.size) (ok := fun k_ => True) (n := t351.length) (c := co24) ?_).2.2; exact (by (with_reducible repeat (first | apply Kd.R_alloc | apply Kd.R_drewN | apply Kd.R_drew)); exact (Kd.R_mono (Kd.R_far (p := ⟨gb357, 4, none⟩) (Kd.R_far (p := ⟨gb357, 3, none⟩) (Kd.R_far (p := ⟨gb357, 2, none⟩) (Kd.R_far (p := ⟨gb357, 1, none⟩) (Kd.R_far (p := ⟨gb357, 0, none⟩) (Kd.R_types HO353.out BK357.out (by decide)) (fun _ hk => hk.2) (.int .i64 t348)) (fun _ hk => hk.2) (.string t349)) (fun _ hk => hk.2) (.int .i64 t350)) (fun _ hk => hk.2) (.slice Ao24 t351.length co24)) (fun _ hk => hk.2) (.slice Ao25 t354.length co25)) (fun _ h_ => h_.1)))); (case side2 => exact (Kd.R_reads' HO353.out).2.1); (case side3 => refine (Kd.N_reads' (e := 31) (base := w.heap.size) (ok := fun k_ => (some k_ ≠ (.slice Ao24 t351.length co24 : Value).ownBlock ∧ k_ ≠ gb357)) (n := t354.length) (c := co25) ?_).2.2; exact (by (with_reducible repeat (first | apply Kd.N_alloc | apply Kd.N_drewN | apply Kd.N_drew)); exact (Kd.N_mono (Kd.N_far (p := ⟨gb357, 4, none⟩) (Kd.N_far (p := ⟨gb357, 3, none⟩) (Kd.N_far (p := ⟨gb357, 2, none⟩) (Kd.N_far (p := ⟨gb357, 1, none⟩) (Kd.N_far (p := ⟨gb357, 0, none⟩) (Kd.N_mono HO356.out (fun k_ hk => (⟨hk, hk.2⟩ : _ ∧ k_ ≠ gb357))) (fun _ hk => hk.2) (.int .i64 t348)) (fun _ hk => hk.2) (.string t349)) (fun _ hk => hk.2) (.int .i64 t350)) (fun _ hk => hk.2) (.slice Ao24 t351.length co24)) (fun _ hk => hk.2) (.slice Ao25 t354.length co25)) (fun _ h_ => h_.1)))); (case side4 => exact (Kd.N_reads' HO356.out).2.1); rintro e w26 ⟨rfl, hb⟩; refine ⟨_, rfl, ?_⟩; have n0_ := Aside0.mk (Kd.R_below (by (with_reducible repeat (first | apply Kd.R_alloc | apply Kd.R_drewN | apply Kd.R_drew)); exact (Kd.R_mono (Kd.R_far (p := ⟨gb357, 4, none⟩) (Kd.R_far (p := ⟨gb357, 3, none⟩) (Kd.R_far (p := ⟨gb357, 2, none⟩) (Kd.R_far (p := ⟨gb357, 1, none⟩) (Kd.R_far (p := ⟨gb357, 0, none⟩) (Kd.R_types HO353.out BK357.out (by decide)) (fun _ hk => hk.2) (.int .i64 t348)) (fun _ hk => hk.2) (.string t349)) (fun _ hk => hk.2) (.int .i64 t350)) (fun _ hk => hk.2) (.slice Ao24 t351.length co24)) (fun _ hk => hk.2) (.slice Ao25 t354.length co25)) (fun _ h_ => h_.1))) hb); have n1_ := Aside0.mk (Kd.N_below (by (with_reducible repeat (first | apply Kd.N_alloc | apply Kd.N_drewN | apply Kd.N_drew)); exact (Kd.N_mono (Kd.N_far (p := ⟨gb357, 4, none⟩) (Kd.N_far (p := ⟨gb357, 3, none⟩) (Kd.N_far (p := ⟨gb357, 2, none⟩) (Kd.N_far (p := ⟨gb357, 1, none⟩) (Kd.N_far (p := ⟨gb357, 0, none⟩) (Kd.N_mono HO356.out (fun k_ hk => (⟨hk, hk.2⟩ : _ ∧ k_ ≠ gb357))) (fun _ hk => hk.2) (.int .i64 t348)) (fun _ hk => hk.2) (.string t349)) (fun _ hk => hk.2) (.int .i64 t350)) (fun _ hk => hk.2) (.slice Ao24 t351.length co24)) (fun _ hk => hk.2) (.slice Ao25 t354.length co25)) (fun _ h_ => h_.1))) hb); have n2_ := Aside0.mk (blk_below (g := gb357) (o := .cells #[.int .i64 t348, .string t349, .int .i64 t350, .slice Ao24 t351.length co24, .slice Ao25 t354.length co25] 31 (0, 0)) (by (with_reducible repeat (first | refine blk_drewN ?_ _ | refine blk_drew ?_ | refine blk_alloc ?_ _)); refine blk_put (cs := #[.int .i64 t348, .string t349, .int .i64 t350, .slice Ao24 t351.length co24, .slice none 0 0]) ?_ 4 _ rfl; (with_reducible repeat (first | refine blk_drewN ?_ _ | refine blk_drew ?_ | refine blk_alloc ?_ _)); refine blk_put (cs := #[.int .i64 t348, .string t349, .int .i64 t350, .slice none 0 0, .slice none 0 0]) ?_ 3 _ rfl; (with_reducible repeat (first | refine blk_drewN ?_ _ | refine blk_drew ?_ | refine blk_alloc ?_ _)); refine blk_put (cs := #[.int .i64 t348, .string t349, .int .i64 0, .slice none 0 0, .slice none 0 0]) ?_ 2 _ rfl; (with_reducible repeat (first | refine blk_drewN ?_ _ | refine blk_drew ?_ | refine blk_alloc ?_ _)); refine blk_put (cs := #[.int .i64 t348, .string (⟨#[]⟩ : ByteArray), .int .i64 0, .slice none 0 0, .slice none 0 0]) ?_ 1 _ rfl; (with_reducible repeat (first | refine blk_drewN ?_ _ | refine blk_drew ?_ | refine blk_alloc ?_ _)); refine blk_put (cs := #[.int .i64 0, .string (⟨#[]⟩ : ByteArray), .int .i64 0, .slice none 0 0, .slice none 0 0]) ?_ 0 _ rfl; (with_reducible repeat (first | refine blk_drewN ?_ _ | refine blk_drew ?_ | refine blk_alloc ?_ _)); exact BK357.out) hb); have n3_ := Aside0.mk (below_step (by repeat (first | (with_reducible first | exact HB.out | apply below_alloc | apply pw_below_drewN | apply below_drew1 | refine below_set ?_ GE357.out) | exact HB.out)) hb); clear HO353; clear HO356; clear BK357; clear HB; have HO353 := n0_; have HO356 := n1_; have BK357 := n2_; have HB := n3_; clear n0_ n1_ n2_ n3_; (try clear hb); (try clear hb2); (try clear hk); (try clear hi); have hcz27_0 : w26.cell? ⟨gb357, 0, none⟩ = some (.int .i64 t348) := (blk_cell BK357.out 0).trans rfl; have hcz27_1 : w26.cell? ⟨gb357, 1, none⟩ = some (.string t349) := (blk_cell BK357.out 1).trans rfl; have hcz27_2 : w26.cell? ⟨gb357, 2, none⟩ = some (.int .i64 t350) := (blk_cell BK357.out 2).trans rfl; have hcz27_3 : w26.cell? ⟨gb357, 3, none⟩ = some (.slice Ao24 t351.length co24) := (blk_cell BK357.out 3).trans rfl; have hcz27_4 : w26.cell? ⟨gb357, 4, none⟩ = some (.slice Ao25 t354.length co25) := (blk_cell BK357.out 4).trans rfl; have hfz27_0 := blk_frozen BK357.out 0; have hfz27_1 := blk_frozen BK357.out 1; have hfz27_2 := blk_frozen BK357.out 2; have hfz27_3 := blk_frozen BK357.out 3; have hfz27_4 := blk_frozen BK357.out 4) | ((with_reducible refine gate_callee (f := 40) rfl ?_); refine goesL_ (some 16) rfl rfl Try.func40 (by kernel_rfl) rfl #[.agg #[.int .i64 t348, .string t349, .int .i64 t350, .slice Ao24 t351.length co24, .slice Ao25 t354.length co25]] rfl (by (try simp only [List.map_toArray, List.map_cons, List.map_nil]); first | done | rfl | (simp only [List.length_drop, List.length_take]; rfl)) ?_; (with_reducible refine (spec_FormSize.calls t348 t349 t350 _ _ t351 _ _ t354 t359 _ ?side1 ?side2 ?side3 ?side4 A5.out).mono ?_); (case side1 => repeat (first | exact (Kd.R_reads' HO353.out).2.2 | (with_reducible refine Kd.C_alloc ?_ _) | (with_reducible refine Kd.C_drewN ?_ _) | (with_reducible refine Kd.C_drew ?_))); (case side2 => exact (Kd.R_reads' HO353.out).2.1); (case side3 => repeat (first | exact (Kd.N_reads' HO356.out).2.2 | (with_reducible refine Kd.C_alloc ?_ _) | (with_reducible refine Kd.C_drewN ?_ _) | (with_reducible refine Kd.C_drew ?_))); (case side4 => exact (Kd.N_reads' HO356.out).2.1); rintro e w28 ⟨rfl, hb⟩; refine ⟨_, rfl, ?_⟩; have n0_ := Aside0.mk (Kd.R_below (by (with_reducible repeat (first | apply Kd.R_alloc | apply Kd.R_drewN | apply Kd.R_drew)); exact HO353.out) hb); have n1_ := Aside0.mk (Kd.N_below (by (with_reducible repeat (first | apply Kd.N_alloc | apply Kd.N_drewN | apply Kd.N_drew)); exact HO356.out) hb); have n2_ := Aside0.mk (blk_below (g := gb357) (o := .cells #[.int .i64 t348, .string t349, .int .i64 t350, .slice Ao24 t351.length co24, .slice Ao25 t354.length co25] 31 (0, 0)) (by (with_reducible repeat (first | refine blk_drewN ?_ _ | refine blk_drew ?_ | refine blk_alloc ?_ _)); exact BK357.out) hb); have n3_ := Aside0.mk (below_step (by repeat (first | (with_reducible first | exact HB.out | apply below_alloc | apply pw_below_drewN | apply below_drew1 | refine below_set ?_ GE357.out) | exact HB.out)) hb); clear HO353; clear HO356; clear BK357; clear HB; have HO353 := n0_; have HO356 := n1_; have BK357 := n2_; have HB := n3_; clear n0_ n1_ n2_ n3_; (try clear hb); (try clear hb2); (try clear hk); (try clear hi)))
      go_ret
      exact ⟨by first | rfl | (simp [errW_none, errW_some] <;> rfl) | (simp [*, errW_none, errW_some] <;> rfl), by repeat (first | (with_reducible first | exact HB.out | apply below_alloc | apply pw_below_drewN | apply below_drew1 | refine below_set ?_ GE357.out) | exact HB.out)⟩

end Go.Proofs.Ytlghpblifbaciaa.Q
