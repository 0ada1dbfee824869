/- Words for the laws' proofs (part 3): contracts of functions, and plain lemmas. -/
import Derived.Test.YtlklclebjeeaaaaHb1
import Derived.Test.YtlklclebjeeaaaaHb2
section
namespace Go.Proofs.Ytlklclebjeeaaaa.Q
open Go.RowKit Go.Proofs.YtlklclebjeeaaaaW.PrintWords Go.Proofs.YtlklclebjeeaaaaW.PrintLast Go.Proofs.YtlklclebjeeaaaaW.PrintMore
attribute [local go_sem] max2_int min2_int max_two min_two max_three min_three max_four min_four   -- for this text's walks alone
set_option linter.unusedVariables false
set_option linter.unusedSimpArgs false

mutual
noncomputable def spec_l4Hit.j0 : Nat → Int → Bool → Int → ByteArray → Int → List Int → List (S34) → Int → Int → ByteArray → Int → List Int → List (S34) → List (S80) → Option (Bool)
  | 0, _, _, _, _, _, _, _, _, _, _, _, _, _, _ => none
  | k + 1, x1, x35, x169000, x169001, x169002, x169003, x169004, x169005, x169006, x169007, x169008, x169009, x169010, x169011 => if x35 = true then (some false) else (if x1 = 0 then ((spec_FormValid.f x169006 x169007 x169008 x169009 x169010).bind fun t170 => (if t170 = true then (some ((x169011.length : Int) == 0)) else (some false))) else (spec_l4Hit.l0 k x1 0 x169000 x169001 x169002 x169003 x169004 x169005 x169006 x169007 x169008 x169009 x169010 x169011))
noncomputable def spec_l4Hit.l0 : Nat → Int → Int → Int → ByteArray → Int → List Int → List (S34) → Int → Int → ByteArray → Int → List Int → List (S34) → List (S80) → Option (Bool)
  | 0, _, _, _, _, _, _, _, _, _, _, _, _, _, _ => none
  | k + 1, x1, x5, x169000, x169001, x169002, x169003, x169004, x169005, x169006, x169007, x169008, x169009, x169010, x169011 => if x5 < (x169011.length : Int) then (if 0 ≤ x5 then ((spec_FormSame.f ((rd_T80 x169011 x5).f0.f0) ((rd_T80 x169011 x5).f0.f1) ((rd_T80 x169011 x5).f0.f2) ((rd_T80 x169011 x5).f0.f3) ((rd_T80 x169011 x5).f0.f4) x169000 x169001 x169002 x169003 x169004).bind fun t173 => (if t173 = true then ((spec_l4Hit.f k ((rd_T80 x169011 x5).f0.f0) ((rd_T80 x169011 x5).f0.f1) ((rd_T80 x169011 x5).f0.f2) ((rd_T80 x169011 x5).f0.f3) ((rd_T80 x169011 x5).f0.f4) ((rd_T80 x169011 x5).f1) ((rd_T80 x169011 x5).f2.f0) ((rd_T80 x169011 x5).f2.f1) ((rd_T80 x169011 x5).f2.f2) ((rd_T80 x169011 x5).f2.f3) ((rd_T80 x169011 x5).f2.f4) ((rd_T80 x169011 x5).f3) (wrap64 (x1 - 1))).bind fun t175 => (if t175 = true then (spec_l4Hit.l0 k x1 (wrap64 (x5 + 1)) x169000 x169001 x169002 x169003 x169004 x169005 x169006 x169007 x169008 x169009 x169010 x169011) else (some false))) else (some false))) else (none)) else ((spec_FormSame.f x169006 x169007 x169008 x169009 x169010 0 (⟨#[]⟩ : ByteArray) 0 ([] : List Int) ([] : List (S34))).bind fun t171 => (if t171 = true then (some (decide ((x169011.length : Int) ≤ 400))) else (some false)))
noncomputable def spec_l4Hit.f : Nat → Int → ByteArray → Int → List Int → List (S34) → Int → Int → ByteArray → Int → List Int → List (S34) → List (S80) → Int → Option (Bool)
  | 0, _, _, _, _, _, _, _, _, _, _, _, _, _ => none
  | k + 1, a0_0, a0_1, a0_2, l0_3, l0_4, a0_5, a0_6, a0_7, a0_8, l0_9, l0_10, l0_11, a1 => if a0_5 = a1 then (if a1 < 0 then (spec_l4Hit.j0 k a1 true a0_0 a0_1 a0_2 l0_3 l0_4 a0_5 a0_6 a0_7 a0_8 l0_9 l0_10 l0_11) else (if a1 > 3 then (spec_l4Hit.j0 k a1 true a0_0 a0_1 a0_2 l0_3 l0_4 a0_5 a0_6 a0_7 a0_8 l0_9 l0_10 l0_11) else ((spec_l3Is.f a0_0 a0_1 a0_2 l0_3 l0_4).bind fun t169 => (if t169 = true then (if a0_1.toList = ([46, 46, 46] : List UInt8) then (spec_l4Hit.j0 k a1 true a0_0 a0_1 a0_2 l0_3 l0_4 a0_5 a0_6 a0_7 a0_8 l0_9 l0_10 l0_11) else (spec_l4Hit.j0 k a1 (a0_1.toList == ([95] : List UInt8)) a0_0 a0_1 a0_2 l0_3 l0_4 a0_5 a0_6 a0_7 a0_8 l0_9 l0_10 l0_11)) else (spec_l4Hit.j0 k a1 true a0_0 a0_1 a0_2 l0_3 l0_4 a0_5 a0_6 a0_7 a0_8 l0_9 l0_10 l0_11))))) else (spec_l4Hit.j0 k a1 true a0_0 a0_1 a0_2 l0_3 l0_4 a0_5 a0_6 a0_7 a0_8 l0_9 l0_10 l0_11)
end
theorem spec_l4Hit.mono_l : ∀ k, (∀ y0 y1 y2 y3 y4 y5 y6 y7 y8 y9 y10 y11 y12, LeO (spec_l4Hit.f k y0 y1 y2 y3 y4 y5 y6 y7 y8 y9 y10 y11 y12) (spec_l4Hit.f (k + 1) y0 y1 y2 y3 y4 y5 y6 y7 y8 y9 y10 y11 y12)) ∧ (∀ y0 y1 y2 y3 y4 y5 y6 y7 y8 y9 y10 y11 y12 y13, LeO (spec_l4Hit.j0 k y0 y1 y2 y3 y4 y5 y6 y7 y8 y9 y10 y11 y12 y13) (spec_l4Hit.j0 (k + 1) y0 y1 y2 y3 y4 y5 y6 y7 y8 y9 y10 y11 y12 y13)) ∧ (∀ y0 y1 y2 y3 y4 y5 y6 y7 y8 y9 y10 y11 y12 y13, LeO (spec_l4Hit.l0 k y0 y1 y2 y3 y4 y5 y6 y7 y8 y9 y10 y11 y12 y13) (spec_l4Hit.l0 (k + 1) y0 y1 y2 y3 y4 y5 y6 y7 y8 y9 y10 y11 y12 y13))
  | 0 => ⟨fun _ _ _ _ _ _ _ _ _ _ _ _ _ r h => by simp [spec_l4Hit.f] at h, fun _ _ _ _ _ _ _ _ _ _ _ _ _ _ r h => by simp [spec_l4Hit.j0] at h, fun _ _ _ _ _ _ _ _ _ _ _ _ _ _ r h => by simp [spec_l4Hit.l0] at h⟩
  | k + 1 => by
    obtain ⟨ih0, ih1, ih2⟩ := spec_l4Hit.mono_l k
    refine ⟨?_, ?_, ?_⟩
    · intro y0 y1 y2 y3 y4 y5 y6 y7 y8 y9 y10 y11 y12
      unfold spec_l4Hit.f
      repeat' first
      | (with_reducible exact ih0 _ _ _ _ _ _ _ _ _ _ _ _ _)
      | (with_reducible exact ih1 _ _ _ _ _ _ _ _ _ _ _ _ _ _)
      | (with_reducible exact ih2 _ _ _ _ _ _ _ _ _ _ _ _ _ _)
      | (with_reducible exact LeO.refl _)
      | (with_reducible exact LeO.none _)
      | (with_reducible refine LeO.ite ?_ ?_)
      | (with_reducible refine LeO.bind ?_ (fun _ => ?_))
      | exact ih0 _ _ _ _ _ _ _ _ _ _ _ _ _
      | exact ih1 _ _ _ _ _ _ _ _ _ _ _ _ _ _
      | exact ih2 _ _ _ _ _ _ _ _ _ _ _ _ _ _
      | exact LeO.none _
      | refine LeO.ite ?_ ?_
      | refine LeO.bind ?_ (fun _ => ?_)
    · intro y0 y1 y2 y3 y4 y5 y6 y7 y8 y9 y10 y11 y12 y13
      unfold spec_l4Hit.j0
      repeat' first
      | (with_reducible exact ih0 _ _ _ _ _ _ _ _ _ _ _ _ _)
      | (with_reducible exact ih1 _ _ _ _ _ _ _ _ _ _ _ _ _ _)
      | (with_reducible exact ih2 _ _ _ _ _ _ _ _ _ _ _ _ _ _)
      | (with_reducible exact LeO.refl _)
      | (with_reducible exact LeO.none _)
      | (with_reducible refine LeO.ite ?_ ?_)
      | (with_reducible refine LeO.bind ?_ (fun _ => ?_))
      | exact ih0 _ _ _ _ _ _ _ _ _ _ _ _ _
      | exact ih1 _ _ _ _ _ _ _ _ _ _ _ _ _ _
      | exact ih2 _ _ _ _ _ _ _ _ _ _ _ _ _ _
      | exact LeO.none _
      | refine LeO.ite ?_ ?_
      | refine LeO.bind ?_ (fun _ => ?_)
    · intro y0 y1 y2 y3 y4 y5 y6 y7 y8 y9 y10 y11 y12 y13
      unfold spec_l4Hit.l0
      repeat' first
      | (with_reducible exact ih0 _ _ _ _ _ _ _ _ _ _ _ _ _)
      | (with_reducible exact ih1 _ _ _ _ _ _ _ _ _ _ _ _ _ _)
      | (with_reducible exact ih2 _ _ _ _ _ _ _ _ _ _ _ _ _ _)
      | (with_reducible exact LeO.refl _)
      | (with_reducible exact LeO.none _)
      | (with_reducible refine LeO.ite ?_ ?_)
      | (with_reducible refine LeO.bind ?_ (fun _ => ?_))
      | exact ih0 _ _ _ _ _ _ _ _ _ _ _ _ _
      | exact ih1 _ _ _ _ _ _ _ _ _ _ _ _ _ _
      | exact ih2 _ _ _ _ _ _ _ _ _ _ _ _ _ _
      | exact LeO.none _
      | refine LeO.ite ?_ ?_
      | refine LeO.bind ?_ (fun _ => ?_)
theorem spec_l4Hit.mono : ∀ a0 a1 a2 a3 a4 a5 a6 a7 a8 a9 a10 a11 a12 k, LeO (spec_l4Hit.f k a0 a1 a2 a3 a4 a5 a6 a7 a8 a9 a10 a11 a12) (spec_l4Hit.f (k + 1) a0 a1 a2 a3 a4 a5 a6 a7 a8 a9 a10 a11 a12) := by
  intro a0 a1 a2 a3 a4 a5 a6 a7 a8 a9 a10 a11 a12 k
  obtain ⟨ih0, ih1, ih2⟩ := spec_l4Hit.mono_l k
  exact ih0 a0 a1 a2 a3 a4 a5 a6 a7 a8 a9 a10 a11 a12
noncomputable def spec_l4Hit.T8 : Bool × List (List Nat × List Nat) := (true, [([], []), ([0], [0]), ([], []), ([1, 2], [1, 2]), ([3], [3]), ([4], [4]), ([], []), ([6], [6]), ([5, 7], [5, 7]), ([8], [8]), ([9, 8], [9]), ([10], [10]), ([11, 10], [10, 11]), ([10], [10]), ([12, 13, 10], [10, 12, 13]), ([14, 10], [10, 14]), ([10], [10]), ([16, 10], [10, 16]), ([15, 17, 10, 10], [10, 15, 17]), ([18, 10], [10, 18]), ([10, 19], [10, 19])])
noncomputable def spec_l4Hit.B8 : List Nat := [0, 1, 0, 7, 15, 31, 0, 64, 255, 511, 1023, 2047, 4095, 2047, 16383, 32767, 2047, 67583, 262143, 524287, 1048575]
theorem spec_l4Hit.tab8 : rtab .any (opsOf Try.f68 8) = spec_l4Hit.T8 := by kernel_rfl
theorem spec_l4Hit.bits8 : waitsOk spec_l4Hit.T8.2 spec_l4Hit.B8 = true := by kernel_rfl
set_option maxHeartbeats 8000000 in
set_option maxRecDepth 100000 in
theorem spec_l4Hit.calls (k : Nat) : ∀ (a0_0 : Int) (a0_1 : ByteArray) (a0_2 : Int) (A0_3 : Option Addr) (c0_3 : Nat) (l0_3 : List Int) (A0_4 : Option Addr) (c0_4 : Nat) (l0_4 : List (S34)) (a0_5 : Int) (a0_6 : Int) (a0_7 : ByteArray) (a0_8 : Int) (A0_9 : Option Addr) (c0_9 : Nat) (l0_9 : List Int) (A0_10 : Option Addr) (c0_10 : Nat) (l0_10 : List (S34)) (A0_11 : Option Addr) (c0_11 : Nat) (l0_11 : List (S80)) (a1 : Int) (r : Bool) (w : World) (hr0_3 : Kd.C (Kd.int .i64) w A0_3 l0_3.length l0_3) (hc0_3 : l0_3.length ≤ c0_3) (hr0_4 : Kd.C k34 w A0_4 l0_4.length l0_4) (hc0_4 : l0_4.length ≤ c0_4) (hr0_9 : Kd.C (Kd.int .i64) w A0_9 l0_9.length l0_9) (hc0_9 : l0_9.length ≤ c0_9) (hr0_10 : Kd.C k34 w A0_10 l0_10.length l0_10) (hc0_10 : l0_10.length ≤ c0_10) (hr0_11 : Kd.C k80 w A0_11 l0_11.length l0_11) (hc0_11 : l0_11.length ≤ c0_11) (h : spec_l4Hit.f k a0_0 a0_1 a0_2 l0_3 l0_4 a0_5 a0_6 a0_7 a0_8 l0_9 l0_10 l0_11 a1 = some r),
    Calls Try.prog 68 #[.agg #[.int .i64 a0_0, .string a0_1, .int .i64 a0_2, .slice A0_3 l0_3.length c0_3, .slice A0_4 l0_4.length c0_4, .int .i64 a0_5, .int .i64 a0_6, .string a0_7, .int .i64 a0_8, .slice A0_9 l0_9.length c0_9, .slice A0_10 l0_10.length c0_10, .slice A0_11 l0_11.length c0_11], .int .i64 a1] w fun e w' => e = .returned (.bool r) ∧ Below w.heap.size w w' := by
  induction k using Nat.strongRecOn with
  | _ k ih =>
  intro a0_0 a0_1 a0_2 A0_3 c0_3 l0_3 A0_4 c0_4 l0_4 a0_5 a0_6 a0_7 a0_8 A0_9 c0_9 l0_9 A0_10 c0_10 l0_10 A0_11 c0_11 l0_11 a1 r w hr0_3 hc0_3 hr0_4 hc0_4 hr0_9 hc0_9 hr0_10 hc0_10 hr0_11 hc0_11 h
  cases k with
  | zero => exact absurd h (by simp [spec_l4Hit.f])
  | succ k =>
  simp only [spec_l4Hit.f] at h
  have hu80 := Try.underlying80
  have hu34 := Try.underlying34
  have HR0_3 := Aside0.mk hr0_3
  have HC0_3 := Aside0.mk hc0_3
  clear hr0_3 hc0_3
  have HR0_4 := Aside0.mk hr0_4
  have HC0_4 := Aside0.mk hc0_4
  clear hr0_4 hc0_4
  have HR0_9 := Aside0.mk hr0_9
  have HC0_9 := Aside0.mk hc0_9
  clear hr0_9 hc0_9
  have HR0_10 := Aside0.mk hr0_10
  have HC0_10 := Aside0.mk hc0_10
  clear hr0_10 hc0_10
  have HR0_11 := Aside0.mk hr0_11
  have HC0_11 := Aside0.mk hc0_11
  clear hr0_11 hc0_11
  have HB := Aside0.mk (Below.refl w.heap.size w)
  have H : (if a0_5 = a1 then (if a1 < 0 then (spec_l4Hit.j0 k a1 true a0_0 a0_1 a0_2 l0_3 l0_4 a0_5 a0_6 a0_7 a0_8 l0_9 l0_10 l0_11) else (if a1 > 3 then (spec_l4Hit.j0 k a1 true a0_0 a0_1 a0_2 l0_3 l0_4 a0_5 a0_6 a0_7 a0_8 l0_9 l0_10 l0_11) else ((spec_l3Is.f a0_0 a0_1 a0_2 l0_3 l0_4).bind fun t169 => (if t169 = true then (if a0_1.toList = ([46, 46, 46] : List UInt8) then (spec_l4Hit.j0 k a1 true a0_0 a0_1 a0_2 l0_3 l0_4 a0_5 a0_6 a0_7 a0_8 l0_9 l0_10 l0_11) else (spec_l4Hit.j0 k a1 (a0_1.toList == ([95] : List UInt8)) a0_0 a0_1 a0_2 l0_3 l0_4 a0_5 a0_6 a0_7 a0_8 l0_9 l0_10 l0_11)) else (spec_l4Hit.j0 k a1 true a0_0 a0_1 a0_2 l0_3 l0_4 a0_5 a0_6 a0_7 a0_8 l0_9 l0_10 l0_11))))) else (spec_l4Hit.j0 k a1 true a0_0 a0_1 a0_2 l0_3 l0_4 a0_5 a0_6 a0_7 a0_8 l0_9 l0_10 l0_11)) = some r := h
  clear h
  have HC3 := Aside0.mk H
  clear H
  go_enter Try.func68, Try.ntmps68
  go_upto_region 1 with (first | ((with_reducible refine gate_dst (N := 2) rfl ?_); (try (refine gate_guard (by rfl) ?_; dsimp only)); refine box_event ?hg (N := 2) ?hd (cs := #[.int .i64 a0_0, .string a0_1, .int .i64 a0_2, .slice A0_3 l0_3.length c0_3, .slice A0_4 l0_4.length c0_4, .int .i64 a0_5, .int .i64 a0_6, .string a0_7, .int .i64 a0_8, .slice A0_9 l0_9.length c0_9, .slice A0_10 l0_10.length c0_10, .slice A0_11 l0_11.length c0_11]) (t := 80) ?hr ?_; (case hd => rfl); (case hg => rfl); (case hr => first | (go_simp; done) | (go_simp; rfl)); intro gb168 hg w4 hbox hb; have n0_ := Aside0.mk (below_step (by repeat (first | (with_reducible first | exact HB.out | apply below_alloc | apply pw_below_drewN | apply below_drew1) | exact HB.out)) hb); have n1_ := Aside0.mk (hbox); have n2_ := Aside0.mk ((by rw [hg]; exact (below_size (by repeat (first | (with_reducible first | exact HB.out | apply below_alloc | apply pw_below_drewN | apply below_drew1) | exact HB.out))) : w.heap.size ≤ gb168)); have n3_ := Aside0.mk ((by rw [hg]; exact (below_size (by repeat (first | (with_reducible first | exact HB.out | apply below_alloc | apply pw_below_drewN | apply below_drew1) | exact HB.out))) : w.heap.size ≤ gb168)); clear HB; have HB := n0_; have BK168 := n1_; have GW168 := n2_; have GE168 := n3_; clear n0_ n1_ n2_ n3_; clear hb hbox hg))
  (try simp only [Act.put, List.setIfInBounds_toArray, List.set_cons_zero, List.set_cons_succ])
  go_cut [35] (fun v35 wc => ∃ (kq : Nat) (x35_2 : Bool), v35 = .bool x35_2 ∧ Aside0 (spec_l4Hit.j0 kq a1 x35_2 a0_0 a0_1 a0_2 l0_3 l0_4 a0_5 a0_6 a0_7 a0_8 l0_9 l0_10 l0_11 = some r) ∧ Aside0 (kq ≤ k) ∧ Aside0 (wc.heap[gb168]? = some (.cells #[.int .i64 a0_0, .string a0_1, .int .i64 a0_2, (.slice A0_3 l0_3.length c0_3), (.slice A0_4 l0_4.length c0_4), .int .i64 a0_5, .int .i64 a0_6, .string a0_7, .int .i64 a0_8, (.slice A0_9 l0_9.length c0_9), (.slice A0_10 l0_10.length c0_10), (.slice A0_11 l0_11.length c0_11)] 80 (0, 0))) ∧ Aside0 (Below w.heap.size w wc))
  case first =>
    have H := HC3.out
    clear HC3
    by_cases c5 : a0_5 = a1
    · rw [if_pos c5] at H
      have c5b0 : (a0_5 == a1) = true := beq_iff_eq.mpr c5
      have c5b1 : (a0_5 != a1) = false := bne_eq_false_iff_eq.mpr c5
      clear c5
      (first | rw [c5b0] | (simp only [i64_w, i32_w]; rw [c5b0]) | skip)
      by_cases c6 : a1 < 0
      · rw [if_pos c6] at H
        have c6b0 : decide (a1 < 0) = true := decide_eq_true c6
        clear c6
        have H' := Aside0.mk H
        clear H
        have hcz7_0 : w4.cell? ⟨gb168, 0, none⟩ = some (.int .i64 a0_0) := (blk_cell BK168.out 0).trans rfl
        have hcz7_1 : w4.cell? ⟨gb168, 1, none⟩ = some (.string a0_1) := (blk_cell BK168.out 1).trans rfl
        have hcz7_2 : w4.cell? ⟨gb168, 2, none⟩ = some (.int .i64 a0_2) := (blk_cell BK168.out 2).trans rfl
        have hcz7_3 : w4.cell? ⟨gb168, 3, none⟩ = some (.slice A0_3 l0_3.length c0_3) := (blk_cell BK168.out 3).trans rfl
        have hcz7_4 : w4.cell? ⟨gb168, 4, none⟩ = some (.slice A0_4 l0_4.length c0_4) := (blk_cell BK168.out 4).trans rfl
        have hcz7_5 : w4.cell? ⟨gb168, 5, none⟩ = some (.int .i64 a0_5) := (blk_cell BK168.out 5).trans rfl
        have hcz7_6 : w4.cell? ⟨gb168, 6, none⟩ = some (.int .i64 a0_6) := (blk_cell BK168.out 6).trans rfl
        have hcz7_7 : w4.cell? ⟨gb168, 7, none⟩ = some (.string a0_7) := (blk_cell BK168.out 7).trans rfl
        have hcz7_8 : w4.cell? ⟨gb168, 8, none⟩ = some (.int .i64 a0_8) := (blk_cell BK168.out 8).trans rfl
        have hcz7_9 : w4.cell? ⟨gb168, 9, none⟩ = some (.slice A0_9 l0_9.length c0_9) := (blk_cell BK168.out 9).trans rfl
        have hcz7_10 : w4.cell? ⟨gb168, 10, none⟩ = some (.slice A0_10 l0_10.length c0_10) := (blk_cell BK168.out 10).trans rfl
        have hcz7_11 : w4.cell? ⟨gb168, 11, none⟩ = some (.slice A0_11 l0_11.length c0_11) := (blk_cell BK168.out 11).trans rfl
        have hfz7_0 := blk_frozen BK168.out 0
        have hfz7_1 := blk_frozen BK168.out 1
        have hfz7_2 := blk_frozen BK168.out 2
        have hfz7_3 := blk_frozen BK168.out 3
        have hfz7_4 := blk_frozen BK168.out 4
        have hfz7_5 := blk_frozen BK168.out 5
        have hfz7_6 := blk_frozen BK168.out 6
        have hfz7_7 := blk_frozen BK168.out 7
        have hfz7_8 := blk_frozen BK168.out 8
        have hfz7_9 := blk_frozen BK168.out 9
        have hfz7_10 := blk_frozen BK168.out 10
        have hfz7_11 := blk_frozen BK168.out 11
        go_wp2
        go_meet
        case rel => exact ⟨_, (true), (by first | rfl | (simp; done) | (simp [*]; done)), H', ⟨by first | omega | exact Nat.le_refl _⟩, ⟨by (with_reducible repeat (first | refine blk_drewN ?_ _ | refine blk_drew ?_ | refine blk_alloc ?_ _)); exact BK168.out⟩, ⟨by repeat (first | (with_reducible first | exact HB.out | apply below_alloc | apply pw_below_drewN | apply below_drew1 | refine below_set ?_ GE168.out) | exact HB.out)⟩⟩
      · rw [if_neg c6] at H
        have c6b0 : decide (a1 < 0) = false := decide_eq_false c6
        clear c6
        by_cases c8 : a1 > 3
        · rw [if_pos c8] at H
          have c8b0 : decide (3 < a1) = true := decide_eq_true c8
          clear c8
          have H' := Aside0.mk H
          clear H
          have hcz9_0 : w4.cell? ⟨gb168, 0, none⟩ = some (.int .i64 a0_0) := (blk_cell BK168.out 0).trans rfl
          have hcz9_1 : w4.cell? ⟨gb168, 1, none⟩ = some (.string a0_1) := (blk_cell BK168.out 1).trans rfl
          have hcz9_2 : w4.cell? ⟨gb168, 2, none⟩ = some (.int .i64 a0_2) := (blk_cell BK168.out 2).trans rfl
          have hcz9_3 : w4.cell? ⟨gb168, 3, none⟩ = some (.slice A0_3 l0_3.length c0_3) := (blk_cell BK168.out 3).trans rfl
          have hcz9_4 : w4.cell? ⟨gb168, 4, none⟩ = some (.slice A0_4 l0_4.length c0_4) := (blk_cell BK168.out 4).trans rfl
          have hcz9_5 : w4.cell? ⟨gb168, 5, none⟩ = some (.int .i64 a0_5) := (blk_cell BK168.out 5).trans rfl
          have hcz9_6 : w4.cell? ⟨gb168, 6, none⟩ = some (.int .i64 a0_6) := (blk_cell BK168.out 6).trans rfl
          have hcz9_7 : w4.cell? ⟨gb168, 7, none⟩ = some (.string a0_7) := (blk_cell BK168.out 7).trans rfl
          have hcz9_8 : w4.cell? ⟨gb168, 8, none⟩ = some (.int .i64 a0_8) := (blk_cell BK168.out 8).trans rfl
          have hcz9_9 : w4.cell? ⟨gb168, 9, none⟩ = some (.slice A0_9 l0_9.length c0_9) := (blk_cell BK168.out 9).trans rfl
          have hcz9_10 : w4.cell? ⟨gb168, 10, none⟩ = some (.slice A0_10 l0_10.length c0_10) := (blk_cell BK168.out 10).trans rfl
          have hcz9_11 : w4.cell? ⟨gb168, 11, none⟩ = some (.slice A0_11 l0_11.length c0_11) := (blk_cell BK168.out 11).trans rfl
          have hfz9_0 := blk_frozen BK168.out 0
          have hfz9_1 := blk_frozen BK168.out 1
          have hfz9_2 := blk_frozen BK168.out 2
          have hfz9_3 := blk_frozen BK168.out 3
          have hfz9_4 := blk_frozen BK168.out 4
          have hfz9_5 := blk_frozen BK168.out 5
          have hfz9_6 := blk_frozen BK168.out 6
          have hfz9_7 := blk_frozen BK168.out 7
          have hfz9_8 := blk_frozen BK168.out 8
          have hfz9_9 := blk_frozen BK168.out 9
          have hfz9_10 := blk_frozen BK168.out 10
          have hfz9_11 := blk_frozen BK168.out 11
          go_wp2
          go_meet
          case rel => exact ⟨_, (true), (by first | rfl | (simp; done) | (simp [*]; done)), H', ⟨by first | omega | exact Nat.le_refl _⟩, ⟨by (with_reducible repeat (first | refine blk_drewN ?_ _ | refine blk_drew ?_ | refine blk_alloc ?_ _)); exact BK168.out⟩, ⟨by repeat (first | (with_reducible first | exact HB.out | apply below_alloc | apply pw_below_drewN | apply below_drew1 | refine below_set ?_ GE168.out) | exact HB.out)⟩⟩
        · rw [if_neg c8] at H
          have c8b0 : decide (3 < a1) = false := decide_eq_false c8
          clear c8
          replace H := Option.bind_eq_some_iff.mp H
          obtain ⟨t169, A100, H⟩ := H
          replace H : (if t169 = true then (if a0_1.toList = ([46, 46, 46] : List UInt8) then (spec_l4Hit.j0 k a1 true a0_0 a0_1 a0_2 l0_3 l0_4 a0_5 a0_6 a0_7 a0_8 l0_9 l0_10 l0_11) else (spec_l4Hit.j0 k a1 (a0_1.toList == ([95] : List UInt8)) a0_0 a0_1 a0_2 l0_3 l0_4 a0_5 a0_6 a0_7 a0_8 l0_9 l0_10 l0_11)) else (spec_l4Hit.j0 k a1 true a0_0 a0_1 a0_2 l0_3 l0_4 a0_5 a0_6 a0_7 a0_8 l0_9 l0_10 l0_11)) = some r := H
          have A10 := Aside0.mk A100
          clear A100
          by_cases c11 : t169 = true
          · subst c11
            have H1 : (if a0_1.toList = ([46, 46, 46] : List UInt8) then (spec_l4Hit.j0 k a1 true a0_0 a0_1 a0_2 l0_3 l0_4 a0_5 a0_6 a0_7 a0_8 l0_9 l0_10 l0_11) else (spec_l4Hit.j0 k a1 (a0_1.toList == ([95] : List UInt8)) a0_0 a0_1 a0_2 l0_3 l0_4 a0_5 a0_6 a0_7 a0_8 l0_9 l0_10 l0_11)) = some r := by rw [if_pos rfl] at H; exact H
            clear H
            have H := H1
            clear H1
            by_cases c12 : a0_1.toList = ([46, 46, 46] : List UInt8)
            · rw [if_pos c12] at H
              have c12b0 : (a0_1.toList == ([46, 46, 46] : List UInt8)) = true := beq_iff_eq.mpr c12
              have c12b1 : (a0_1.toList != ([46, 46, 46] : List UInt8)) = false := bne_eq_false_iff_eq.mpr c12
              clear c12
              have H' := Aside0.mk H
              clear H
              have hcz13_0 : w4.cell? ⟨gb168, 0, none⟩ = some (.int .i64 a0_0) := (blk_cell BK168.out 0).trans rfl
              have hcz13_1 : w4.cell? ⟨gb168, 1, none⟩ = some (.string a0_1) := (blk_cell BK168.out 1).trans rfl
              have hcz13_2 : w4.cell? ⟨gb168, 2, none⟩ = some (.int .i64 a0_2) := (blk_cell BK168.out 2).trans rfl
              have hcz13_3 : w4.cell? ⟨gb168, 3, none⟩ = some (.slice A0_3 l0_3.length c0_3) := (blk_cell BK168.out 3).trans rfl
              have hcz13_4 : w4.cell? ⟨gb168, 4, none⟩ = some (.slice A0_4 l0_4.length c0_4) := (blk_cell BK168.out 4).trans rfl
              have hcz13_5 : w4.cell? ⟨gb168, 5, none⟩ = some (.int .i64 a0_5) := (blk_cell BK168.out 5).trans rfl
              have hcz13_6 : w4.cell? ⟨gb168, 6, none⟩ = some (.int .i64 a0_6) := (blk_cell BK168.out 6).trans rfl
              have hcz13_7 : w4.cell? ⟨gb168, 7, none⟩ = some (.string a0_7) := (blk_cell BK168.out 7).trans rfl
              have hcz13_8 : w4.cell? ⟨gb168, 8, none⟩ = some (.int .i64 a0_8) := (blk_cell BK168.out 8).trans rfl
              have hcz13_9 : w4.cell? ⟨gb168, 9, none⟩ = some (.slice A0_9 l0_9.length c0_9) := (blk_cell BK168.out 9).trans rfl
              have hcz13_10 : w4.cell? ⟨gb168, 10, none⟩ = some (.slice A0_10 l0_10.length c0_10) := (blk_cell BK168.out 10).trans rfl
              have hcz13_11 : w4.cell? ⟨gb168, 11, none⟩ = some (.slice A0_11 l0_11.length c0_11) := (blk_cell BK168.out 11).trans rfl
              have hfz13_0 := blk_frozen BK168.out 0
              have hfz13_1 := blk_frozen BK168.out 1
              have hfz13_2 := blk_frozen BK168.out 2
              have hfz13_3 := blk_frozen BK168.out 3
              have hfz13_4 := blk_frozen BK168.out 4
              have hfz13_5 := blk_frozen BK168.out 5
              have hfz13_6 := blk_frozen BK168.out 6
              have hfz13_7 := blk_frozen BK168.out 7
              have hfz13_8 := blk_frozen BK168.out 8
              have hfz13_9 := blk_frozen BK168.out 9
              have hfz13_10 := blk_frozen BK168.out 10
              have hfz13_11 := blk_frozen BK168.out 11
              go_wp2_with (first | (go_at_call 46; (with_reducible refine (spec_l3Is.calls a0_0 a0_1 a0_2 _ _ l0_3 _ _ l0_4 true _ ?side1 ?side2 ?side3 ?side4 A10.out).mono ?_); (case side1 => repeat (first | exact (Kd.C_below HR0_3.out HB.out) | (with_reducible refine Kd.C_alloc ?_ _) | (with_reducible refine Kd.C_drewN ?_ _) | (with_reducible refine Kd.C_drew ?_))); (case side2 => exact HC0_3.out); (case side3 => repeat (first | exact (Kd.C_below HR0_4.out HB.out) | (with_reducible refine Kd.C_alloc ?_ _) | (with_reducible refine Kd.C_drewN ?_ _) | (with_reducible refine Kd.C_drew ?_))); (case side4 => exact HC0_4.out); rintro e w14 ⟨rfl, hb⟩; have n0_ := Aside0.mk (blk_below (g := gb168) (o := .cells #[.int .i64 a0_0, .string a0_1, .int .i64 a0_2, .slice A0_3 l0_3.length c0_3, .slice A0_4 l0_4.length c0_4, .int .i64 a0_5, .int .i64 a0_6, .string a0_7, .int .i64 a0_8, .slice A0_9 l0_9.length c0_9, .slice A0_10 l0_10.length c0_10, .slice A0_11 l0_11.length c0_11] 80 (0, 0)) (by (with_reducible repeat (first | refine blk_drewN ?_ _ | refine blk_drew ?_ | refine blk_alloc ?_ _)); exact BK168.out) hb); have n1_ := Aside0.mk (below_step (by repeat (first | (with_reducible first | exact HB.out | apply below_alloc | apply pw_below_drewN | apply below_drew1 | refine below_set ?_ GE168.out) | exact HB.out)) hb); clear BK168; clear HB; have BK168 := n0_; have HB := n1_; clear n0_ n1_; (try clear hb); (try clear hb2); (try clear hk); (try clear hi); have hcz15_0 : w14.cell? ⟨gb168, 0, none⟩ = some (.int .i64 a0_0) := (blk_cell BK168.out 0).trans rfl; have hcz15_1 : w14.cell? ⟨gb168, 1, none⟩ = some (.string a0_1) := (blk_cell BK168.out 1).trans rfl; have hcz15_2 : w14.cell? ⟨gb168, 2, none⟩ = some (.int .i64 a0_2) := (blk_cell BK168.out 2).trans rfl; have hcz15_3 : w14.cell? ⟨gb168, 3, none⟩ = some (.slice A0_3 l0_3.length c0_3) := (blk_cell BK168.out 3).trans rfl; have hcz15_4 : w14.cell? ⟨gb168, 4, none⟩ = some (.slice A0_4 l0_4.length c0_4) := (blk_cell BK168.out 4).trans rfl; have hcz15_5 : w14.cell? ⟨gb168, 5, none⟩ = some (.int .i64 a0_5) := (blk_cell BK168.out 5).trans rfl; have hcz15_6 : w14.cell? ⟨gb168, 6, none⟩ = some (.int .i64 a0_6) := (blk_cell BK168.out 6).trans rfl; have hcz15_7 : w14.cell? ⟨gb168, 7, none⟩ = some (.string a0_7) := (blk_cell BK168.out 7).trans rfl; have hcz15_8 : w14.cell? ⟨gb168, 8, none⟩ = some (.int .i64 a0_8) := (blk_cell BK168.out 8).trans rfl; have hcz15_9 : w14.cell? ⟨gb168, 9, none⟩ = some (.slice A0_9 l0_9.length c0_9) := (blk_cell BK168.out 9).trans rfl; have hcz15_10 : w14.cell? ⟨gb168, 10, none⟩ = some (.slice A0_10 l0_10.length c0_10) := (blk_cell BK168.out 10).trans rfl; have hcz15_11 : w14.cell? ⟨gb168, 11, none⟩ = some (.slice A0_11 l0_11.length c0_11) := (blk_cell BK168.out 11).trans rfl; have hfz15_0 := blk_frozen BK168.out 0; have hfz15_1 := blk_frozen BK168.out 1; have hfz15_2 := blk_frozen BK168.out 2; have hfz15_3 := blk_frozen BK168.out 3; have hfz15_4 := blk_frozen BK168.out 4; have hfz15_5 := blk_frozen BK168.out 5; have hfz15_6 := blk_frozen BK168.out 6; have hfz15_7 := blk_frozen BK168.out 7; have hfz15_8 := blk_frozen BK168.out 8; have hfz15_9 := blk_frozen BK168.out 9; have hfz15_10 := blk_frozen BK168.out 10; have hfz15_11 := blk_frozen BK168.out 11))
              go_meet
              case rel => exact ⟨_, (true), (by first | rfl | (simp; done) | (simp [*]; done)), H', ⟨by first | omega | exact Nat.le_refl _⟩, ⟨by (with_reducible repeat (first | refine blk_drewN ?_ _ | refine blk_drew ?_ | refine blk_alloc ?_ _)); exact BK168.out⟩, ⟨by repeat (first | (with_reducible first | exact HB.out | apply below_alloc | apply pw_below_drewN | apply below_drew1 | refine below_set ?_ GE168.out) | exact HB.out)⟩⟩
            · rw [if_neg c12] at H
              have c12b0 : (a0_1.toList == ([46, 46, 46] : List UInt8)) = false := beq_eq_false_iff_ne.mpr c12
              have c12b1 : (a0_1.toList != ([46, 46, 46] : List UInt8)) = true := bne_iff_ne.mpr c12
              have H' := Aside0.mk H
              clear H
              have hcz16_0 : w4.cell? ⟨gb168, 0, none⟩ = some (.int .i64 a0_0) := (blk_cell BK168.out 0).trans rfl
              have hcz16_1 : w4.cell? ⟨gb168, 1, none⟩ = some (.string a0_1) := (blk_cell BK168.out 1).trans rfl
              have hcz16_2 : w4.cell? ⟨gb168, 2, none⟩ = some (.int .i64 a0_2) := (blk_cell BK168.out 2).trans rfl
              have hcz16_3 : w4.cell? ⟨gb168, 3, none⟩ = some (.slice A0_3 l0_3.length c0_3) := (blk_cell BK168.out 3).trans rfl
              have hcz16_4 : w4.cell? ⟨gb168, 4, none⟩ = some (.slice A0_4 l0_4.length c0_4) := (blk_cell BK168.out 4).trans rfl
              have hcz16_5 : w4.cell? ⟨gb168, 5, none⟩ = some (.int .i64 a0_5) := (blk_cell BK168.out 5).trans rfl
              have hcz16_6 : w4.cell? ⟨gb168, 6, none⟩ = some (.int .i64 a0_6) := (blk_cell BK168.out 6).trans rfl
              have hcz16_7 : w4.cell? ⟨gb168, 7, none⟩ = some (.string a0_7) := (blk_cell BK168.out 7).trans rfl
              have hcz16_8 : w4.cell? ⟨gb168, 8, none⟩ = some (.int .i64 a0_8) := (blk_cell BK168.out 8).trans rfl
              have hcz16_9 : w4.cell? ⟨gb168, 9, none⟩ = some (.slice A0_9 l0_9.length c0_9) := (blk_cell BK168.out 9).trans rfl
              have hcz16_10 : w4.cell? ⟨gb168, 10, none⟩ = some (.slice A0_10 l0_10.length c0_10) := (blk_cell BK168.out 10).trans rfl
              have hcz16_11 : w4.cell? ⟨gb168, 11, none⟩ = some (.slice A0_11 l0_11.length c0_11) := (blk_cell BK168.out 11).trans rfl
              have hfz16_0 := blk_frozen BK168.out 0
              have hfz16_1 := blk_frozen BK168.out 1
              have hfz16_2 := blk_frozen BK168.out 2
              have hfz16_3 := blk_frozen BK168.out 3
              have hfz16_4 := blk_frozen BK168.out 4
              have hfz16_5 := blk_frozen BK168.out 5
              have hfz16_6 := blk_frozen BK168.out 6
              have hfz16_7 := blk_frozen BK168.out 7
              have hfz16_8 := blk_frozen BK168.out 8
              have hfz16_9 := blk_frozen BK168.out 9
              have hfz16_10 := blk_frozen BK168.out 10
              have hfz16_11 := blk_frozen BK168.out 11
              go_wp2_with (first | (go_at_call 46; (with_reducible refine (spec_l3Is.calls a0_0 a0_1 a0_2 _ _ l0_3 _ _ l0_4 true _ ?side1 ?side2 ?side3 ?side4 A10.out).mono ?_); (case side1 => repeat (first | exact (Kd.C_below HR0_3.out HB.out) | (with_reducible refine Kd.C_alloc ?_ _) | (with_reducible refine Kd.C_drewN ?_ _) | (with_reducible refine Kd.C_drew ?_))); (case side2 => exact HC0_3.out); (case side3 => repeat (first | exact (Kd.C_below HR0_4.out HB.out) | (with_reducible refine Kd.C_alloc ?_ _) | (with_reducible refine Kd.C_drewN ?_ _) | (with_reducible refine Kd.C_drew ?_))); (case side4 => exact HC0_4.out); rintro e w17 ⟨rfl, hb⟩; have n0_ := Aside0.mk (blk_below (g := gb168) (o := .cells #[.int .i64 a0_0, .string a0_1, .int .i64 a0_2, .slice A0_3 l0_3.length c0_3, .slice A0_4 l0_4.length c0_4, .int .i64 a0_5, .int .i64 a0_6, .string a0_7, .int .i64 a0_8, .slice A0_9 l0_9.length c0_9, .slice A0_10 l0_10.length c0_10, .slice A0_11 l0_11.length c0_11] 80 (0, 0)) (by (with_reducible repeat (first | refine blk_drewN ?_ _ | refine blk_drew ?_ | refine blk_alloc ?_ _)); exact BK168.out) hb); have n1_ := Aside0.mk (below_step (by repeat (first | (with_reducible first | exact HB.out | apply below_alloc | apply pw_below_drewN | apply below_drew1 | refine below_set ?_ GE168.out) | exact HB.out)) hb); clear BK168; clear HB; have BK168 := n0_; have HB := n1_; clear n0_ n1_; (try clear hb); (try clear hb2); (try clear hk); (try clear hi); have hcz18_0 : w17.cell? ⟨gb168, 0, none⟩ = some (.int .i64 a0_0) := (blk_cell BK168.out 0).trans rfl; have hcz18_1 : w17.cell? ⟨gb168, 1, none⟩ = some (.string a0_1) := (blk_cell BK168.out 1).trans rfl; have hcz18_2 : w17.cell? ⟨gb168, 2, none⟩ = some (.int .i64 a0_2) := (blk_cell BK168.out 2).trans rfl; have hcz18_3 : w17.cell? ⟨gb168, 3, none⟩ = some (.slice A0_3 l0_3.length c0_3) := (blk_cell BK168.out 3).trans rfl; have hcz18_4 : w17.cell? ⟨gb168, 4, none⟩ = some (.slice A0_4 l0_4.length c0_4) := (blk_cell BK168.out 4).trans rfl; have hcz18_5 : w17.cell? ⟨gb168, 5, none⟩ = some (.int .i64 a0_5) := (blk_cell BK168.out 5).trans rfl; have hcz18_6 : w17.cell? ⟨gb168, 6, none⟩ = some (.int .i64 a0_6) := (blk_cell BK168.out 6).trans rfl; have hcz18_7 : w17.cell? ⟨gb168, 7, none⟩ = some (.string a0_7) := (blk_cell BK168.out 7).trans rfl; have hcz18_8 : w17.cell? ⟨gb168, 8, none⟩ = some (.int .i64 a0_8) := (blk_cell BK168.out 8).trans rfl; have hcz18_9 : w17.cell? ⟨gb168, 9, none⟩ = some (.slice A0_9 l0_9.length c0_9) := (blk_cell BK168.out 9).trans rfl; have hcz18_10 : w17.cell? ⟨gb168, 10, none⟩ = some (.slice A0_10 l0_10.length c0_10) := (blk_cell BK168.out 10).trans rfl; have hcz18_11 : w17.cell? ⟨gb168, 11, none⟩ = some (.slice A0_11 l0_11.length c0_11) := (blk_cell BK168.out 11).trans rfl; have hfz18_0 := blk_frozen BK168.out 0; have hfz18_1 := blk_frozen BK168.out 1; have hfz18_2 := blk_frozen BK168.out 2; have hfz18_3 := blk_frozen BK168.out 3; have hfz18_4 := blk_frozen BK168.out 4; have hfz18_5 := blk_frozen BK168.out 5; have hfz18_6 := blk_frozen BK168.out 6; have hfz18_7 := blk_frozen BK168.out 7; have hfz18_8 := blk_frozen BK168.out 8; have hfz18_9 := blk_frozen BK168.out 9; have hfz18_10 := blk_frozen BK168.out 10; have hfz18_11 := blk_frozen BK168.out 11))
              go_meet
              case rel => exact ⟨_, ((a0_1.toList == ([95] : List UInt8))), (by first | rfl | (simp; done) | (simp [*]; done)), H', ⟨by first | omega | exact Nat.le_refl _⟩, ⟨by (with_reducible repeat (first | refine blk_drewN ?_ _ | refine blk_drew ?_ | refine blk_alloc ?_ _)); exact BK168.out⟩, ⟨by repeat (first | (with_reducible first | exact HB.out | apply below_alloc | apply pw_below_drewN | apply below_drew1 | refine below_set ?_ GE168.out) | exact HB.out)⟩⟩
          · replace c11 := Bool.eq_false_iff.mpr c11
            subst c11
            have H1 : (spec_l4Hit.j0 k a1 true a0_0 a0_1 a0_2 l0_3 l0_4 a0_5 a0_6 a0_7 a0_8 l0_9 l0_10 l0_11) = some r := by rw [if_neg (show ¬ (false = true) by decide)] at H; exact H
            clear H
            have H := H1
            clear H1
            have H' := Aside0.mk H
            clear H
            have hcz19_0 : w4.cell? ⟨gb168, 0, none⟩ = some (.int .i64 a0_0) := (blk_cell BK168.out 0).trans rfl
            have hcz19_1 : w4.cell? ⟨gb168, 1, none⟩ = some (.string a0_1) := (blk_cell BK168.out 1).trans rfl
            have hcz19_2 : w4.cell? ⟨gb168, 2, none⟩ = some (.int .i64 a0_2) := (blk_cell BK168.out 2).trans rfl
            have hcz19_3 : w4.cell? ⟨gb168, 3, none⟩ = some (.slice A0_3 l0_3.length c0_3) := (blk_cell BK168.out 3).trans rfl
            have hcz19_4 : w4.cell? ⟨gb168, 4, none⟩ = some (.slice A0_4 l0_4.length c0_4) := (blk_cell BK168.out 4).trans rfl
            have hcz19_5 : w4.cell? ⟨gb168, 5, none⟩ = some (.int .i64 a0_5) := (blk_cell BK168.out 5).trans rfl
            have hcz19_6 : w4.cell? ⟨gb168, 6, none⟩ = some (.int .i64 a0_6) := (blk_cell BK168.out 6).trans rfl
            have hcz19_7 : w4.cell? ⟨gb168, 7, none⟩ = some (.string a0_7) := (blk_cell BK168.out 7).trans rfl
            have hcz19_8 : w4.cell? ⟨gb168, 8, none⟩ = some (.int .i64 a0_8) := (blk_cell BK168.out 8).trans rfl
            have hcz19_9 : w4.cell? ⟨gb168, 9, none⟩ = some (.slice A0_9 l0_9.length c0_9) := (blk_cell BK168.out 9).trans rfl
            have hcz19_10 : w4.cell? ⟨gb168, 10, none⟩ = some (.slice A0_10 l0_10.length c0_10) := (blk_cell BK168.out 10).trans rfl
            have hcz19_11 : w4.cell? ⟨gb168, 11, none⟩ = some (.slice A0_11 l0_11.length c0_11) := (blk_cell BK168.out 11).trans rfl
            have hfz19_0 := blk_frozen BK168.out 0
            have hfz19_1 := blk_frozen BK168.out 1
            have hfz19_2 := blk_frozen BK168.out 2
            have hfz19_3 := blk_frozen BK168.out 3
            have hfz19_4 := blk_frozen BK168.out 4
            have hfz19_5 := blk_frozen BK168.out 5
            have hfz19_6 := blk_frozen BK168.out 6
            have hfz19_7 := blk_frozen BK168.out 7
            have hfz19_8 := blk_frozen BK168.out 8
            have hfz19_9 := blk_frozen BK168.out 9
            have hfz19_10 := blk_frozen BK168.out 10
            have hfz19_11 := blk_frozen BK168.out 11
            go_wp2_with (first | (go_at_call 46; (with_reducible refine (spec_l3Is.calls a0_0 a0_1 a0_2 _ _ l0_3 _ _ l0_4 false _ ?side1 ?side2 ?side3 ?side4 A10.out).mono ?_); (case side1 => repeat (first | exact (Kd.C_below HR0_3.out HB.out) | (with_reducible refine Kd.C_alloc ?_ _) | (with_reducible refine Kd.C_drewN ?_ _) | (with_reducible refine Kd.C_drew ?_))); (case side2 => exact HC0_3.out); (case side3 => repeat (first | exact (Kd.C_below HR0_4.out HB.out) | (with_reducible refine Kd.C_alloc ?_ _) | (with_reducible refine Kd.C_drewN ?_ _) | (with_reducible refine Kd.C_drew ?_))); (case side4 => exact HC0_4.out); rintro e w20 ⟨rfl, hb⟩; have n0_ := Aside0.mk (blk_below (g := gb168) (o := .cells #[.int .i64 a0_0, .string a0_1, .int .i64 a0_2, .slice A0_3 l0_3.length c0_3, .slice A0_4 l0_4.length c0_4, .int .i64 a0_5, .int .i64 a0_6, .string a0_7, .int .i64 a0_8, .slice A0_9 l0_9.length c0_9, .slice A0_10 l0_10.length c0_10, .slice A0_11 l0_11.length c0_11] 80 (0, 0)) (by (with_reducible repeat (first | refine blk_drewN ?_ _ | refine blk_drew ?_ | refine blk_alloc ?_ _)); exact BK168.out) hb); have n1_ := Aside0.mk (below_step (by repeat (first | (with_reducible first | exact HB.out | apply below_alloc | apply pw_below_drewN | apply below_drew1 | refine below_set ?_ GE168.out) | exact HB.out)) hb); clear BK168; clear HB; have BK168 := n0_; have HB := n1_; clear n0_ n1_; (try clear hb); (try clear hb2); (try clear hk); (try clear hi)))
            go_meet
            case rel => exact ⟨_, (true), (by first | rfl | (simp; done) | (simp [*]; done)), H', ⟨by first | omega | exact Nat.le_refl _⟩, ⟨by (with_reducible repeat (first | refine blk_drewN ?_ _ | refine blk_drew ?_ | refine blk_alloc ?_ _)); exact BK168.out⟩, ⟨by repeat (first | (with_reducible first | exact HB.out | apply below_alloc | apply pw_below_drewN | apply below_drew1 | refine below_set ?_ GE168.out) | exact HB.out)⟩⟩
    · rw [if_neg c5] at H
      have c5b0 : (a0_5 == a1) = false := beq_eq_false_iff_ne.mpr c5
      have c5b1 : (a0_5 != a1) = true := bne_iff_ne.mpr c5
      (first | rw [c5b0] | (simp only [i64_w, i32_w]; rw [c5b0]) | skip)
      have H' := Aside0.mk H
      clear H
      have hcz21_0 : w4.cell? ⟨gb168, 0, none⟩ = some (.int .i64 a0_0) := (blk_cell BK168.out 0).trans rfl
      have hcz21_1 : w4.cell? ⟨gb168, 1, none⟩ = some (.string a0_1) := (blk_cell BK168.out 1).trans rfl
      have hcz21_2 : w4.cell? ⟨gb168, 2, none⟩ = some (.int .i64 a0_2) := (blk_cell BK168.out 2).trans rfl
      have hcz21_3 : w4.cell? ⟨gb168, 3, none⟩ = some (.slice A0_3 l0_3.length c0_3) := (blk_cell BK168.out 3).trans rfl
      have hcz21_4 : w4.cell? ⟨gb168, 4, none⟩ = some (.slice A0_4 l0_4.length c0_4) := (blk_cell BK168.out 4).trans rfl
      have hcz21_5 : w4.cell? ⟨gb168, 5, none⟩ = some (.int .i64 a0_5) := (blk_cell BK168.out 5).trans rfl
      have hcz21_6 : w4.cell? ⟨gb168, 6, none⟩ = some (.int .i64 a0_6) := (blk_cell BK168.out 6).trans rfl
      have hcz21_7 : w4.cell? ⟨gb168, 7, none⟩ = some (.string a0_7) := (blk_cell BK168.out 7).trans rfl
      have hcz21_8 : w4.cell? ⟨gb168, 8, none⟩ = some (.int .i64 a0_8) := (blk_cell BK168.out 8).trans rfl
      have hcz21_9 : w4.cell? ⟨gb168, 9, none⟩ = some (.slice A0_9 l0_9.length c0_9) := (blk_cell BK168.out 9).trans rfl
      have hcz21_10 : w4.cell? ⟨gb168, 10, none⟩ = some (.slice A0_10 l0_10.length c0_10) := (blk_cell BK168.out 10).trans rfl
      have hcz21_11 : w4.cell? ⟨gb168, 11, none⟩ = some (.slice A0_11 l0_11.length c0_11) := (blk_cell BK168.out 11).trans rfl
      have hfz21_0 := blk_frozen BK168.out 0
      have hfz21_1 := blk_frozen BK168.out 1
      have hfz21_2 := blk_frozen BK168.out 2
      have hfz21_3 := blk_frozen BK168.out 3
      have hfz21_4 := blk_frozen BK168.out 4
      have hfz21_5 := blk_frozen BK168.out 5
      have hfz21_6 := blk_frozen BK168.out 6
      have hfz21_7 := blk_frozen BK168.out 7
      have hfz21_8 := blk_frozen BK168.out 8
      have hfz21_9 := blk_frozen BK168.out 9
      have hfz21_10 := blk_frozen BK168.out 10
      have hfz21_11 := blk_frozen BK168.out 11
      go_wp2
      go_meet
      case rel => exact ⟨_, (true), (by first | rfl | (simp; done) | (simp [*]; done)), H', ⟨by first | omega | exact Nat.le_refl _⟩, ⟨by (with_reducible repeat (first | refine blk_drewN ?_ _ | refine blk_drew ?_ | refine blk_alloc ?_ _)); exact BK168.out⟩, ⟨by repeat (first | (with_reducible first | exact HB.out | apply below_alloc | apply pw_below_drewN | apply below_drew1 | refine below_set ?_ GE168.out) | exact HB.out)⟩⟩
  case rest =>
    clear HC3
    try clear c1
    try clear p2
    try clear c5
    try clear c5b0
    try clear c5b1
    try clear c6
    try clear c6b0
    try clear c8
    try clear c8b0
    try clear c11
    try clear c12
    try clear c12b0
    try clear c12b1
    try clear hcz13_0
    try clear hcz13_1
    try clear hcz13_10
    try clear hcz13_11
    try clear hcz13_2
    try clear hcz13_3
    try clear hcz13_4
    try clear hcz13_5
    try clear hcz13_6
    try clear hcz13_7
    try clear hcz13_8
    try clear hcz13_9
    try clear hcz15_0
    try clear hcz15_1
    try clear hcz15_10
    try clear hcz15_11
    try clear hcz15_2
    try clear hcz15_3
    try clear hcz15_4
    try clear hcz15_5
    try clear hcz15_6
    try clear hcz15_7
    try clear hcz15_8
    try clear hcz15_9
    try clear hcz16_0
    try clear hcz16_1
    try clear hcz16_10
    try clear hcz16_11
    try clear hcz16_2
    try clear hcz16_3
    try clear hcz16_4
    try clear hcz16_5
    try clear hcz16_6
    try clear hcz16_7
    try clear hcz16_8
    try clear hcz16_9
    try clear hcz18_0
    try clear hcz18_1
    try clear hcz18_10
    try clear hcz18_11
    try clear hcz18_2
    try clear hcz18_3
    try clear hcz18_4
    try clear hcz18_5
    try clear hcz18_6
    try clear hcz18_7
    try clear hcz18_8
    try clear hcz18_9
    try clear hcz19_0
    try clear hcz19_1
    try clear hcz19_10
    try clear hcz19_11
    try clear hcz19_2
    try clear hcz19_3
    try clear hcz19_4
    try clear hcz19_5
    try clear hcz19_6
    try clear hcz19_7
    try clear hcz19_8
    try clear hcz19_9
    try clear hcz21_0
    try clear hcz21_1
    try clear hcz21_10
    try clear hcz21_11
    try clear hcz21_2
    try clear hcz21_3
    try clear hcz21_4
    try clear hcz21_5
    try clear hcz21_6
    try clear hcz21_7
    try clear hcz21_8
    try clear hcz21_9
    try clear hcz7_0
    try clear hcz7_1
    try clear hcz7_10
    try clear hcz7_11
    try clear hcz7_2
    try clear hcz7_3
    try clear hcz7_4
    try clear hcz7_5
    try clear hcz7_6
    try clear hcz7_7
    try clear hcz7_8
    try clear hcz7_9
    try clear hcz9_0
    try clear hcz9_1
    try clear hcz9_10
    try clear hcz9_11
    try clear hcz9_2
    try clear hcz9_3
    try clear hcz9_4
    try clear hcz9_5
    try clear hcz9_6
    try clear hcz9_7
    try clear hcz9_8
    try clear hcz9_9
    try clear hfz13_0
    try clear hfz13_1
    try clear hfz13_10
    try clear hfz13_11
    try clear hfz13_2
    try clear hfz13_3
    try clear hfz13_4
    try clear hfz13_5
    try clear hfz13_6
    try clear hfz13_7
    try clear hfz13_8
    try clear hfz13_9
    try clear hfz15_0
    try clear hfz15_1
    try clear hfz15_10
    try clear hfz15_11
    try clear hfz15_2
    try clear hfz15_3
    try clear hfz15_4
    try clear hfz15_5
    try clear hfz15_6
    try clear hfz15_7
    try clear hfz15_8
    try clear hfz15_9
    try clear hfz16_0
    try clear hfz16_1
    try clear hfz16_10
    try clear hfz16_11
    try clear hfz16_2
    try clear hfz16_3
    try clear hfz16_4
    try clear hfz16_5
    try clear hfz16_6
    try clear hfz16_7
    try clear hfz16_8
    try clear hfz16_9
    try clear hfz18_0
    try clear hfz18_1
    try clear hfz18_10
    try clear hfz18_11
    try clear hfz18_2
    try clear hfz18_3
    try clear hfz18_4
    try clear hfz18_5
    try clear hfz18_6
    try clear hfz18_7
    try clear hfz18_8
    try clear hfz18_9
    try clear hfz19_0
    try clear hfz19_1
    try clear hfz19_10
    try clear hfz19_11
    try clear hfz19_2
    try clear hfz19_3
    try clear hfz19_4
    try clear hfz19_5
    try clear hfz19_6
    try clear hfz19_7
    try clear hfz19_8
    try clear hfz19_9
    try clear hfz21_0
    try clear hfz21_1
    try clear hfz21_10
    try clear hfz21_11
    try clear hfz21_2
    try clear hfz21_3
    try clear hfz21_4
    try clear hfz21_5
    try clear hfz21_6
    try clear hfz21_7
    try clear hfz21_8
    try clear hfz21_9
    try clear hfz7_0
    try clear hfz7_1
    try clear hfz7_10
    try clear hfz7_11
    try clear hfz7_2
    try clear hfz7_3
    try clear hfz7_4
    try clear hfz7_5
    try clear hfz7_6
    try clear hfz7_7
    try clear hfz7_8
    try clear hfz7_9
    try clear hfz9_0
    try clear hfz9_1
    try clear hfz9_10
    try clear hfz9_11
    try clear hfz9_2
    try clear hfz9_3
    try clear hfz9_4
    try clear hfz9_5
    try clear hfz9_6
    try clear hfz9_7
    try clear hfz9_8
    try clear hfz9_9
    obtain ⟨kq, x35_2, rfl, HA, HJ2, BK168, HB⟩ := hcut
    cases kq with
    | zero => exact absurd HA.out (by simp [spec_l4Hit.j0])
    | succ kj2 =>
      have H := HA.out
      clear HA
      simp only [spec_l4Hit.j0] at H
      by_cases c22 : x35_2 = true
      · subst c22
        have H1 : (some false) = some r := by rw [if_pos rfl] at H; exact H
        clear H
        have H := H1
        clear H1
        obtain rfl := Option.some.inj H
        go_wp2
        go_ret
        exact ⟨by first | rfl | (simp [errW_none, errW_some] <;> rfl) | (simp [*, errW_none, errW_some] <;> rfl), by repeat (first | (with_reducible first | exact HB.out | apply below_alloc | apply pw_below_drewN | apply below_drew1 | refine below_set ?_ GE168.out) | exact HB.out)⟩
      · replace c22 := Bool.eq_false_iff.mpr c22
        subst c22
        have H1 : (if a1 = 0 then ((spec_FormValid.f a0_6 a0_7 a0_8 l0_9 l0_10).bind fun t170 => (if t170 = true then (some ((l0_11.length : Int) == 0)) else (some false))) else (spec_l4Hit.l0 kj2 a1 0 a0_0 a0_1 a0_2 l0_3 l0_4 a0_5 a0_6 a0_7 a0_8 l0_9 l0_10 l0_11)) = some r := by rw [if_neg (show ¬ (false = true) by decide)] at H; exact H
        clear H
        have H := H1
        clear H1
        by_cases c23 : a1 = 0
        · rw [if_pos c23] at H
          have c23b0 : (a1 == 0) = true := beq_iff_eq.mpr c23
          have c23b1 : (a1 != 0) = false := bne_eq_false_iff_eq.mpr c23
          clear c23
          replace H := Option.bind_eq_some_iff.mp H
          obtain ⟨t170, A240, H⟩ := H
          replace H : (if t170 = true then (some ((l0_11.length : Int) == 0)) else (some false)) = some r := H
          have A24 := Aside0.mk A240
          clear A240
          by_cases c25 : t170 = true
          · subst c25
            have H1 : (some ((l0_11.length : Int) == 0)) = some r := by rw [if_pos rfl] at H; exact H
            clear H
            have H := H1
            clear H1
            obtain rfl := Option.some.inj H
            have hcz26_0 : wc.cell? ⟨gb168, 0, none⟩ = some (.int .i64 a0_0) := (blk_cell BK168.out 0).trans rfl
            have hcz26_1 : wc.cell? ⟨gb168, 1, none⟩ = some (.string a0_1) := (blk_cell BK168.out 1).trans rfl
            have hcz26_2 : wc.cell? ⟨gb168, 2, none⟩ = some (.int .i64 a0_2) := (blk_cell BK168.out 2).trans rfl
            have hcz26_3 : wc.cell? ⟨gb168, 3, none⟩ = some (.slice A0_3 l0_3.length c0_3) := (blk_cell BK168.out 3).trans rfl
            have hcz26_4 : wc.cell? ⟨gb168, 4, none⟩ = some (.slice A0_4 l0_4.length c0_4) := (blk_cell BK168.out 4).trans rfl
            have hcz26_5 : wc.cell? ⟨gb168, 5, none⟩ = some (.int .i64 a0_5) := (blk_cell BK168.out 5).trans rfl
            have hcz26_6 : wc.cell? ⟨gb168, 6, none⟩ = some (.int .i64 a0_6) := (blk_cell BK168.out 6).trans rfl
            have hcz26_7 : wc.cell? ⟨gb168, 7, none⟩ = some (.string a0_7) := (blk_cell BK168.out 7).trans rfl
            have hcz26_8 : wc.cell? ⟨gb168, 8, none⟩ = some (.int .i64 a0_8) := (blk_cell BK168.out 8).trans rfl
            have hcz26_9 : wc.cell? ⟨gb168, 9, none⟩ = some (.slice A0_9 l0_9.length c0_9) := (blk_cell BK168.out 9).trans rfl
            have hcz26_10 : wc.cell? ⟨gb168, 10, none⟩ = some (.slice A0_10 l0_10.length c0_10) := (blk_cell BK168.out 10).trans rfl
            have hcz26_11 : wc.cell? ⟨gb168, 11, none⟩ = some (.slice A0_11 l0_11.length c0_11) := (blk_cell BK168.out 11).trans rfl
            have hfz26_0 := blk_frozen BK168.out 0
            have hfz26_1 := blk_frozen BK168.out 1
            have hfz26_2 := blk_frozen BK168.out 2
            have hfz26_3 := blk_frozen BK168.out 3
            have hfz26_4 := blk_frozen BK168.out 4
            have hfz26_5 := blk_frozen BK168.out 5
            have hfz26_6 := blk_frozen BK168.out 6
            have hfz26_7 := blk_frozen BK168.out 7
            have hfz26_8 := blk_frozen BK168.out 8
            have hfz26_9 := blk_frozen BK168.out 9
            have hfz26_10 := blk_frozen BK168.out 10
            have hfz26_11 := blk_frozen BK168.out 11
            go_wp2_with (first | ((with_reducible refine gate_callee (f := 82) rfl ?_); refine goesL_ (some 40) rfl rfl Try.func82 (by kernel_rfl) rfl #[.agg #[.int .i64 a0_6, .string a0_7, .int .i64 a0_8, .slice A0_9 l0_9.length c0_9, .slice A0_10 l0_10.length c0_10]] rfl (by (try simp only [List.map_toArray, List.map_cons, List.map_nil]); first | done | rfl | (simp only [List.length_drop, List.length_take]; rfl)) ?_; (with_reducible refine (spec_FormValid.calls a0_6 a0_7 a0_8 _ _ l0_9 _ _ l0_10 true _ ?side1 ?side2 ?side3 ?side4 A24.out).mono ?_); (case side1 => repeat (first | exact (Kd.C_below HR0_9.out HB.out) | (with_reducible refine Kd.C_alloc ?_ _) | (with_reducible refine Kd.C_drewN ?_ _) | (with_reducible refine Kd.C_drew ?_))); (case side2 => exact HC0_9.out); (case side3 => repeat (first | exact (Kd.C_below HR0_10.out HB.out) | (with_reducible refine Kd.C_alloc ?_ _) | (with_reducible refine Kd.C_drewN ?_ _) | (with_reducible refine Kd.C_drew ?_))); (case side4 => exact HC0_10.out); rintro e w27 ⟨rfl, hb⟩; refine ⟨_, rfl, ?_⟩; have n0_ := Aside0.mk (blk_below (g := gb168) (o := .cells #[.int .i64 a0_0, .string a0_1, .int .i64 a0_2, .slice A0_3 l0_3.length c0_3, .slice A0_4 l0_4.length c0_4, .int .i64 a0_5, .int .i64 a0_6, .string a0_7, .int .i64 a0_8, .slice A0_9 l0_9.length c0_9, .slice A0_10 l0_10.length c0_10, .slice A0_11 l0_11.length c0_11] 80 (0, 0)) (by (with_reducible repeat (first | refine blk_drewN ?_ _ | refine blk_drew ?_ | refine blk_alloc ?_ _)); exact BK168.out) hb); have n1_ := Aside0.mk (below_step (by repeat (first | (with_reducible first | exact HB.out | apply below_alloc | apply pw_below_drewN | apply below_drew1 | refine below_set ?_ GE168.out) | exact HB.out)) hb); clear BK168; clear HB; have BK168 := n0_; have HB := n1_; clear n0_ n1_; (try clear hb); (try clear hb2); (try clear hk); (try clear hi); have hcz28_0 : w27.cell? ⟨gb168, 0, none⟩ = some (.int .i64 a0_0) := (blk_cell BK168.out 0).trans rfl; have hcz28_1 : w27.cell? ⟨gb168, 1, none⟩ = some (.string a0_1) := (blk_cell BK168.out 1).trans rfl; have hcz28_2 : w27.cell? ⟨gb168, 2, none⟩ = some (.int .i64 a0_2) := (blk_cell BK168.out 2).trans rfl; have hcz28_3 : w27.cell? ⟨gb168, 3, none⟩ = some (.slice A0_3 l0_3.length c0_3) := (blk_cell BK168.out 3).trans rfl; have hcz28_4 : w27.cell? ⟨gb168, 4, none⟩ = some (.slice A0_4 l0_4.length c0_4) := (blk_cell BK168.out 4).trans rfl; have hcz28_5 : w27.cell? ⟨gb168, 5, none⟩ = some (.int .i64 a0_5) := (blk_cell BK168.out 5).trans rfl; have hcz28_6 : w27.cell? ⟨gb168, 6, none⟩ = some (.int .i64 a0_6) := (blk_cell BK168.out 6).trans rfl; have hcz28_7 : w27.cell? ⟨gb168, 7, none⟩ = some (.string a0_7) := (blk_cell BK168.out 7).trans rfl; have hcz28_8 : w27.cell? ⟨gb168, 8, none⟩ = some (.int .i64 a0_8) := (blk_cell BK168.out 8).trans rfl; have hcz28_9 : w27.cell? ⟨gb168, 9, none⟩ = some (.slice A0_9 l0_9.length c0_9) := (blk_cell BK168.out 9).trans rfl; have hcz28_10 : w27.cell? ⟨gb168, 10, none⟩ = some (.slice A0_10 l0_10.length c0_10) := (blk_cell BK168.out 10).trans rfl; have hcz28_11 : w27.cell? ⟨gb168, 11, none⟩ = some (.slice A0_11 l0_11.length c0_11) := (blk_cell BK168.out 11).trans rfl; have hfz28_0 := blk_frozen BK168.out 0; have hfz28_1 := blk_frozen BK168.out 1; have hfz28_2 := blk_frozen BK168.out 2; have hfz28_3 := blk_frozen BK168.out 3; have hfz28_4 := blk_frozen BK168.out 4; have hfz28_5 := blk_frozen BK168.out 5; have hfz28_6 := blk_frozen BK168.out 6; have hfz28_7 := blk_frozen BK168.out 7; have hfz28_8 := blk_frozen BK168.out 8; have hfz28_9 := blk_frozen BK168.out 9; have hfz28_10 := blk_frozen BK168.out 10; have hfz28_11 := blk_frozen BK168.out 11))
            go_ret
            exact ⟨by first | rfl | (simp [errW_none, errW_some] <;> rfl) | (simp [*, errW_none, errW_some] <;> rfl), by repeat (first | (with_reducible first | exact HB.out | apply below_alloc | apply pw_below_drewN | apply below_drew1 | refine below_set ?_ GE168.out) | exact HB.out)⟩
          · replace c25 := Bool.eq_false_iff.mpr c25
            subst c25
            have H1 : (some false) = some r := by rw [if_neg (show ¬ (false = true) by decide)] at H; exact H
            clear H
            have H := H1
            clear H1
            obtain rfl := Option.some.inj H
            have hcz29_0 : wc.cell? ⟨gb168, 0, none⟩ = some (.int .i64 a0_0) := (blk_cell BK168.out 0).trans rfl
            have hcz29_1 : wc.cell? ⟨gb168, 1, none⟩ = some (.string a0_1) := (blk_cell BK168.out 1).trans rfl
            have hcz29_2 : wc.cell? ⟨gb168, 2, none⟩ = some (.int .i64 a0_2) := (blk_cell BK168.out 2).trans rfl
            have hcz29_3 : wc.cell? ⟨gb168, 3, none⟩ = some (.slice A0_3 l0_3.length c0_3) := (blk_cell BK168.out 3).trans rfl
            have hcz29_4 : wc.cell? ⟨gb168, 4, none⟩ = some (.slice A0_4 l0_4.length c0_4) := (blk_cell BK168.out 4).trans rfl
            have hcz29_5 : wc.cell? ⟨gb168, 5, none⟩ = some (.int .i64 a0_5) := (blk_cell BK168.out 5).trans rfl
            have hcz29_6 : wc.cell? ⟨gb168, 6, none⟩ = some (.int .i64 a0_6) := (blk_cell BK168.out 6).trans rfl
            have hcz29_7 : wc.cell? ⟨gb168, 7, none⟩ = some (.string a0_7) := (blk_cell BK168.out 7).trans rfl
            have hcz29_8 : wc.cell? ⟨gb168, 8, none⟩ = some (.int .i64 a0_8) := (blk_cell BK168.out 8).trans rfl
            have hcz29_9 : wc.cell? ⟨gb168, 9, none⟩ = some (.slice A0_9 l0_9.length c0_9) := (blk_cell BK168.out 9).trans rfl
            have hcz29_10 : wc.cell? ⟨gb168, 10, none⟩ = some (.slice A0_10 l0_10.length c0_10) := (blk_cell BK168.out 10).trans rfl
            have hcz29_11 : wc.cell? ⟨gb168, 11, none⟩ = some (.slice A0_11 l0_11.length c0_11) := (blk_cell BK168.out 11).trans rfl
            have hfz29_0 := blk_frozen BK168.out 0
            have hfz29_1 := blk_frozen BK168.out 1
            have hfz29_2 := blk_frozen BK168.out 2
            have hfz29_3 := blk_frozen BK168.out 3
            have hfz29_4 := blk_frozen BK168.out 4
            have hfz29_5 := blk_frozen BK168.out 5
            have hfz29_6 := blk_frozen BK168.out 6
            have hfz29_7 := blk_frozen BK168.out 7
            have hfz29_8 := blk_frozen BK168.out 8
            have hfz29_9 := blk_frozen BK168.out 9
            have hfz29_10 := blk_frozen BK168.out 10
            have hfz29_11 := blk_frozen BK168.out 11
            go_wp2_with (first | ((with_reducible refine gate_callee (f := 82) rfl ?_); refine goesL_ (some 40) rfl rfl Try.func82 (by kernel_rfl) rfl #[.agg #[.int .i64 a0_6, .string a0_7, .int .i64 a0_8, .slice A0_9 l0_9.length c0_9, .slice A0_10 l0_10.length c0_10]] rfl (by (try simp only [List.map_toArray, List.map_cons, List.map_nil]); first | done | rfl | (simp only [List.length_drop, List.length_take]; rfl)) ?_; (with_reducible refine (spec_FormValid.calls a0_6 a0_7 a0_8 _ _ l0_9 _ _ l0_10 false _ ?side1 ?side2 ?side3 ?side4 A24.out).mono ?_); (case side1 => repeat (first | exact (Kd.C_below HR0_9.out HB.out) | (with_reducible refine Kd.C_alloc ?_ _) | (with_reducible refine Kd.C_drewN ?_ _) | (with_reducible refine Kd.C_drew ?_))); (case side2 => exact HC0_9.out); (case side3 => repeat (first | exact (Kd.C_below HR0_10.out HB.out) | (with_reducible refine Kd.C_alloc ?_ _) | (with_reducible refine Kd.C_drewN ?_ _) | (with_reducible refine Kd.C_drew ?_))); (case side4 => exact HC0_10.out); rintro e w30 ⟨rfl, hb⟩; refine ⟨_, rfl, ?_⟩; have n0_ := Aside0.mk (blk_below (g := gb168) (o := .cells #[.int .i64 a0_0, .string a0_1, .int .i64 a0_2, .slice A0_3 l0_3.length c0_3, .slice A0_4 l0_4.length c0_4, .int .i64 a0_5, .int .i64 a0_6, .string a0_7, .int .i64 a0_8, .slice A0_9 l0_9.length c0_9, .slice A0_10 l0_10.length c0_10, .slice A0_11 l0_11.length c0_11] 80 (0, 0)) (by (with_reducible repeat (first | refine blk_drewN ?_ _ | refine blk_drew ?_ | refine blk_alloc ?_ _)); exact BK168.out) hb); have n1_ := Aside0.mk (below_step (by repeat (first | (with_reducible first | exact HB.out | apply below_alloc | apply pw_below_drewN | apply below_drew1 | refine below_set ?_ GE168.out) | exact HB.out)) hb); clear BK168; clear HB; have BK168 := n0_; have HB := n1_; clear n0_ n1_; (try clear hb); (try clear hb2); (try clear hk); (try clear hi)))
            go_ret
            exact ⟨by first | rfl | (simp [errW_none, errW_some] <;> rfl) | (simp [*, errW_none, errW_some] <;> rfl), by repeat (first | (with_reducible first | exact HB.out | apply below_alloc | apply pw_below_drewN | apply below_drew1 | refine below_set ?_ GE168.out) | exact HB.out)⟩
        · rw [if_neg c23] at H
          have c23b0 : (a1 == 0) = false := beq_eq_false_iff_ne.mpr c23
          have c23b1 : (a1 != 0) = true := bne_iff_ne.mpr c23
          have H' := Aside0.mk H
          clear H
          go_wp2
          go_loopg [5] kj2 (fun kq v5 w' => ∃ (x5_2 : Int), v5 = .int .i64 x5_2 ∧ Aside0 (spec_l4Hit.l0 kq a1 x5_2 a0_0 a0_1 a0_2 l0_3 l0_4 a0_5 a0_6 a0_7 a0_8 l0_9 l0_10 l0_11 = some r) ∧ Aside0 (kq ≤ kj2) ∧ Aside0 (w'.heap[gb168]? = some (.cells #[.int .i64 a0_0, .string a0_1, .int .i64 a0_2, (.slice A0_3 l0_3.length c0_3), (.slice A0_4 l0_4.length c0_4), .int .i64 a0_5, .int .i64 a0_6, .string a0_7, .int .i64 a0_8, (.slice A0_9 l0_9.length c0_9), (.slice A0_10 l0_10.length c0_10), (.slice A0_11 l0_11.length c0_11)] 80 (0, 0))) ∧ Aside0 (Below w.heap.size w w'))
          case atStart => exact ⟨(0), (by first | rfl | (simp; done) | (simp [*]; done)), H', ⟨Nat.le_refl _⟩, ⟨by (with_reducible repeat (first | refine blk_drewN ?_ _ | refine blk_drew ?_ | refine blk_alloc ?_ _)); exact BK168.out⟩, ⟨by repeat (first | (with_reducible first | exact HB.out | apply below_alloc | apply pw_below_drewN | apply below_drew1 | refine below_set ?_ GE168.out) | exact HB.out)⟩⟩
          case round =>
            clear H'
            try clear c1
            try clear c2
            try clear p2
            try clear c5
            try clear c5b0
            try clear c5b1
            try clear c6
            try clear c6b0
            try clear c8
            try clear c8b0
            try clear c11
            try clear c12
            try clear c12b0
            try clear c12b1
            try clear c22
            try clear c23
            try clear c23b0
            try clear c23b1
            try clear c25
            try clear hcz13_0
            try clear hcz13_1
            try clear hcz13_10
            try clear hcz13_11
            try clear hcz13_2
            try clear hcz13_3
            try clear hcz13_4
            try clear hcz13_5
            try clear hcz13_6
            try clear hcz13_7
            try clear hcz13_8
            try clear hcz13_9
            try clear hcz15_0
            try clear hcz15_1
            try clear hcz15_10
            try clear hcz15_11
            try clear hcz15_2
            try clear hcz15_3
            try clear hcz15_4
            try clear hcz15_5
            try clear hcz15_6
            try clear hcz15_7
            try clear hcz15_8
            try clear hcz15_9
            try clear hcz16_0
            try clear hcz16_1
            try clear hcz16_10
            try clear hcz16_11
            try clear hcz16_2
            try clear hcz16_3
            try clear hcz16_4
            try clear hcz16_5
            try clear hcz16_6
            try clear hcz16_7
            try clear hcz16_8
            try clear hcz16_9
            try clear hcz18_0
            try clear hcz18_1
            try clear hcz18_10
            try clear hcz18_11
            try clear hcz18_2
            try clear hcz18_3
            try clear hcz18_4
            try clear hcz18_5
            try clear hcz18_6
            try clear hcz18_7
            try clear hcz18_8
            try clear hcz18_9
            try clear hcz19_0
            try clear hcz19_1
            try clear hcz19_10
            try clear hcz19_11
            try clear hcz19_2
            try clear hcz19_3
            try clear hcz19_4
            try clear hcz19_5
            try clear hcz19_6
            try clear hcz19_7
            try clear hcz19_8
            try clear hcz19_9
            try clear hcz21_0
            try clear hcz21_1
            try clear hcz21_10
            try clear hcz21_11
            try clear hcz21_2
            try clear hcz21_3
            try clear hcz21_4
            try clear hcz21_5
            try clear hcz21_6
            try clear hcz21_7
            try clear hcz21_8
            try clear hcz21_9
            try clear hcz26_0
            try clear hcz26_1
            try clear hcz26_10
            try clear hcz26_11
            try clear hcz26_2
            try clear hcz26_3
            try clear hcz26_4
            try clear hcz26_5
            try clear hcz26_6
            try clear hcz26_7
            try clear hcz26_8
            try clear hcz26_9
            try clear hcz28_0
            try clear hcz28_1
            try clear hcz28_10
            try clear hcz28_11
            try clear hcz28_2
            try clear hcz28_3
            try clear hcz28_4
            try clear hcz28_5
            try clear hcz28_6
            try clear hcz28_7
            try clear hcz28_8
            try clear hcz28_9
            try clear hcz29_0
            try clear hcz29_1
            try clear hcz29_10
            try clear hcz29_11
            try clear hcz29_2
            try clear hcz29_3
            try clear hcz29_4
            try clear hcz29_5
            try clear hcz29_6
            try clear hcz29_7
            try clear hcz29_8
            try clear hcz29_9
            try clear hcz7_0
            try clear hcz7_1
            try clear hcz7_10
            try clear hcz7_11
            try clear hcz7_2
            try clear hcz7_3
            try clear hcz7_4
            try clear hcz7_5
            try clear hcz7_6
            try clear hcz7_7
            try clear hcz7_8
            try clear hcz7_9
            try clear hcz9_0
            try clear hcz9_1
            try clear hcz9_10
            try clear hcz9_11
            try clear hcz9_2
            try clear hcz9_3
            try clear hcz9_4
            try clear hcz9_5
            try clear hcz9_6
            try clear hcz9_7
            try clear hcz9_8
            try clear hcz9_9
            try clear hfz13_0
            try clear hfz13_1
            try clear hfz13_10
            try clear hfz13_11
            try clear hfz13_2
            try clear hfz13_3
            try clear hfz13_4
            try clear hfz13_5
            try clear hfz13_6
            try clear hfz13_7
            try clear hfz13_8
            try clear hfz13_9
            try clear hfz15_0
            try clear hfz15_1
            try clear hfz15_10
            try clear hfz15_11
            try clear hfz15_2
            try clear hfz15_3
            try clear hfz15_4
            try clear hfz15_5
            try clear hfz15_6
            try clear hfz15_7
            try clear hfz15_8
            try clear hfz15_9
            try clear hfz16_0
            try clear hfz16_1
            try clear hfz16_10
            try clear hfz16_11
            try clear hfz16_2
            try clear hfz16_3
            try clear hfz16_4
            try clear hfz16_5
            try clear hfz16_6
            try clear hfz16_7
            try clear hfz16_8
            try clear hfz16_9
            try clear hfz18_0
            try clear hfz18_1
            try clear hfz18_10
            try clear hfz18_11
            try clear hfz18_2
            try clear hfz18_3
            try clear hfz18_4
            try clear hfz18_5
            try clear hfz18_6
            try clear hfz18_7
            try clear hfz18_8
            try clear hfz18_9
            try clear hfz19_0
            try clear hfz19_1
            try clear hfz19_10
            try clear hfz19_11
            try clear hfz19_2
            try clear hfz19_3
            try clear hfz19_4
            try clear hfz19_5
            try clear hfz19_6
            try clear hfz19_7
            try clear hfz19_8
            try clear hfz19_9
            try clear hfz21_0
            try clear hfz21_1
            try clear hfz21_10
            try clear hfz21_11
            try clear hfz21_2
            try clear hfz21_3
            try clear hfz21_4
            try clear hfz21_5
            try clear hfz21_6
            try clear hfz21_7
            try clear hfz21_8
            try clear hfz21_9
            try clear hfz26_0
            try clear hfz26_1
            try clear hfz26_10
            try clear hfz26_11
            try clear hfz26_2
            try clear hfz26_3
            try clear hfz26_4
            try clear hfz26_5
            try clear hfz26_6
            try clear hfz26_7
            try clear hfz26_8
            try clear hfz26_9
            try clear hfz28_0
            try clear hfz28_1
            try clear hfz28_10
            try clear hfz28_11
            try clear hfz28_2
            try clear hfz28_3
            try clear hfz28_4
            try clear hfz28_5
            try clear hfz28_6
            try clear hfz28_7
            try clear hfz28_8
            try clear hfz28_9
            try clear hfz29_0
            try clear hfz29_1
            try clear hfz29_10
            try clear hfz29_11
            try clear hfz29_2
            try clear hfz29_3
            try clear hfz29_4
            try clear hfz29_5
            try clear hfz29_6
            try clear hfz29_7
            try clear hfz29_8
            try clear hfz29_9
            try clear hfz7_0
            try clear hfz7_1
            try clear hfz7_10
            try clear hfz7_11
            try clear hfz7_2
            try clear hfz7_3
            try clear hfz7_4
            try clear hfz7_5
            try clear hfz7_6
            try clear hfz7_7
            try clear hfz7_8
            try clear hfz7_9
            try clear hfz9_0
            try clear hfz9_1
            try clear hfz9_10
            try clear hfz9_11
            try clear hfz9_2
            try clear hfz9_3
            try clear hfz9_4
            try clear hfz9_5
            try clear hfz9_6
            try clear hfz9_7
            try clear hfz9_8
            try clear hfz9_9
            try clear p2
            obtain ⟨x5_2, rfl, HA, HK2, BK168, HB⟩ := hrel
            cases gk with
            | zero => exact absurd HA.out (by simp [spec_l4Hit.l0])
            | succ k2 =>
              have H := HA.out
              clear HA
              simp only [spec_l4Hit.l0] at H
              by_cases c31 : x5_2 < (l0_11.length : Int)
              · rw [if_pos c31] at H
                have c31b0 : decide (x5_2 < (l0_11.length : Int)) = true := decide_eq_true c31
                clear c31
                by_cases c32 : 0 ≤ x5_2
                · rw [if_pos c32] at H
                  have c32b0 : decide (0 ≤ x5_2) = true := decide_eq_true c32
                  clear c32
                  replace H := Option.bind_eq_some_iff.mp H
                  obtain ⟨t173, A330, H⟩ := H
                  replace H : (if t173 = true then ((spec_l4Hit.f k2 ((rd_T80 l0_11 x5_2).f0.f0) ((rd_T80 l0_11 x5_2).f0.f1) ((rd_T80 l0_11 x5_2).f0.f2) ((rd_T80 l0_11 x5_2).f0.f3) ((rd_T80 l0_11 x5_2).f0.f4) ((rd_T80 l0_11 x5_2).f1) ((rd_T80 l0_11 x5_2).f2.f0) ((rd_T80 l0_11 x5_2).f2.f1) ((rd_T80 l0_11 x5_2).f2.f2) ((rd_T80 l0_11 x5_2).f2.f3) ((rd_T80 l0_11 x5_2).f2.f4) ((rd_T80 l0_11 x5_2).f3) (wrap64 (a1 - 1))).bind fun t175 => (if t175 = true then (spec_l4Hit.l0 k2 a1 (wrap64 (x5_2 + 1)) a0_0 a0_1 a0_2 l0_3 l0_4 a0_5 a0_6 a0_7 a0_8 l0_9 l0_10 l0_11) else (some false))) else (some false)) = some r := H
                  have A33 := Aside0.mk A330
                  clear A330
                  by_cases c34 : t173 = true
                  · subst c34
                    have H1 : ((spec_l4Hit.f k2 ((rd_T80 l0_11 x5_2).f0.f0) ((rd_T80 l0_11 x5_2).f0.f1) ((rd_T80 l0_11 x5_2).f0.f2) ((rd_T80 l0_11 x5_2).f0.f3) ((rd_T80 l0_11 x5_2).f0.f4) ((rd_T80 l0_11 x5_2).f1) ((rd_T80 l0_11 x5_2).f2.f0) ((rd_T80 l0_11 x5_2).f2.f1) ((rd_T80 l0_11 x5_2).f2.f2) ((rd_T80 l0_11 x5_2).f2.f3) ((rd_T80 l0_11 x5_2).f2.f4) ((rd_T80 l0_11 x5_2).f3) (wrap64 (a1 - 1))).bind fun t175 => (if t175 = true then (spec_l4Hit.l0 k2 a1 (wrap64 (x5_2 + 1)) a0_0 a0_1 a0_2 l0_3 l0_4 a0_5 a0_6 a0_7 a0_8 l0_9 l0_10 l0_11) else (some false))) = some r := by rw [if_pos rfl] at H; exact H
                    clear H
                    have H := H1
                    clear H1
                    replace H := Option.bind_eq_some_iff.mp H
                    obtain ⟨t175, A350, H⟩ := H
                    replace H : (if t175 = true then (spec_l4Hit.l0 k2 a1 (wrap64 (x5_2 + 1)) a0_0 a0_1 a0_2 l0_3 l0_4 a0_5 a0_6 a0_7 a0_8 l0_9 l0_10 l0_11) else (some false)) = some r := H
                    have A35 := Aside0.mk A350
                    clear A350
                    by_cases c36 : t175 = true
                    · subst c36
                      have H1 : (spec_l4Hit.l0 k2 a1 (wrap64 (x5_2 + 1)) a0_0 a0_1 a0_2 l0_3 l0_4 a0_5 a0_6 a0_7 a0_8 l0_9 l0_10 l0_11) = some r := by rw [if_pos rfl] at H; exact H
                      clear H
                      have H := H1
                      clear H1
                      have H' := Aside0.mk H
                      clear H
                      have hcz37_0 : wr.cell? ⟨gb168, 0, none⟩ = some (.int .i64 a0_0) := (blk_cell BK168.out 0).trans rfl
                      have hcz37_1 : wr.cell? ⟨gb168, 1, none⟩ = some (.string a0_1) := (blk_cell BK168.out 1).trans rfl
                      have hcz37_2 : wr.cell? ⟨gb168, 2, none⟩ = some (.int .i64 a0_2) := (blk_cell BK168.out 2).trans rfl
                      have hcz37_3 : wr.cell? ⟨gb168, 3, none⟩ = some (.slice A0_3 l0_3.length c0_3) := (blk_cell BK168.out 3).trans rfl
                      have hcz37_4 : wr.cell? ⟨gb168, 4, none⟩ = some (.slice A0_4 l0_4.length c0_4) := (blk_cell BK168.out 4).trans rfl
                      have hcz37_5 : wr.cell? ⟨gb168, 5, none⟩ = some (.int .i64 a0_5) := (blk_cell BK168.out 5).trans rfl
                      have hcz37_6 : wr.cell? ⟨gb168, 6, none⟩ = some (.int .i64 a0_6) := (blk_cell BK168.out 6).trans rfl
                      have hcz37_7 : wr.cell? ⟨gb168, 7, none⟩ = some (.string a0_7) := (blk_cell BK168.out 7).trans rfl
                      have hcz37_8 : wr.cell? ⟨gb168, 8, none⟩ = some (.int .i64 a0_8) := (blk_cell BK168.out 8).trans rfl
                      have hcz37_9 : wr.cell? ⟨gb168, 9, none⟩ = some (.slice A0_9 l0_9.length c0_9) := (blk_cell BK168.out 9).trans rfl
                      have hcz37_10 : wr.cell? ⟨gb168, 10, none⟩ = some (.slice A0_10 l0_10.length c0_10) := (blk_cell BK168.out 10).trans rfl
                      have hcz37_11 : wr.cell? ⟨gb168, 11, none⟩ = some (.slice A0_11 l0_11.length c0_11) := (blk_cell BK168.out 11).trans rfl
                      have hfz37_0 := blk_frozen BK168.out 0
                      have hfz37_1 := blk_frozen BK168.out 1
                      have hfz37_2 := blk_frozen BK168.out 2
                      have hfz37_3 := blk_frozen BK168.out 3
                      have hfz37_4 := blk_frozen BK168.out 4
                      have hfz37_5 := blk_frozen BK168.out 5
                      have hfz37_6 := blk_frozen BK168.out 6
                      have hfz37_7 := blk_frozen BK168.out 7
                      have hfz37_8 := blk_frozen BK168.out 8
                      have hfz37_9 := blk_frozen BK168.out 9
                      have hfz37_10 := blk_frozen BK168.out 10
                      have hfz37_11 := blk_frozen BK168.out 11
                      try go_wp2
                      have n0_ := Aside0.mk (blk_drew BK168.out)
                      have n1_ := Aside0.mk (below_drew1 HB.out)
                      clear BK168
                      clear HB
                      have BK168 := n0_
                      have HB := n1_
                      clear n0_ n1_
                      have p172 : 0 ≤ (x5_2 : Int) := of_decide_eq_true (by first | (with_reducible assumption) | assumption)
                      have q172 : x5_2 < (l0_11.length : Int) := of_decide_eq_true (by first | (with_reducible assumption) | assumption)
                      obtain ⟨ad172, A172_3, c172_3, A172_4, c172_4, A172_9, c172_9, A172_10, c172_10, A172_11, c172_11, e172, hx172_0, hx172_1, hx172_2, hx172_3, hx172_4, hx172_5, hx172_6, hx172_7, hx172_8, hx172_9, hx172_10, hx172_11, hl172_3, hi172_3, hl172_4, hi172_4, hl172_9, hi172_9, hl172_10, hi172_10, hl172_11, hi172_11⟩ := at_T80 HR0_11.out x5_2 p172 q172
                      have hw172_11 := hx172_11
                      have hw172_10 := hx172_10
                      have hw172_9 := hx172_9
                      have hw172_8 := hx172_8
                      have hw172_7 := hx172_7
                      have hw172_6 := hx172_6
                      have hw172_5 := hx172_5
                      have hw172_4 := hx172_4
                      have hw172_3 := hx172_3
                      have hw172_2 := hx172_2
                      have hw172_1 := hx172_1
                      have hw172_0 := hx172_0
                      cases e172
                      replace hx172_0 := (HB.out.cell (World.block_lt_of_cell? w _ hx172_0)).trans hx172_0
                      replace hx172_1 := (HB.out.cell (World.block_lt_of_cell? w _ hx172_1)).trans hx172_1
                      replace hx172_2 := (HB.out.cell (World.block_lt_of_cell? w _ hx172_2)).trans hx172_2
                      replace hx172_3 := (HB.out.cell (World.block_lt_of_cell? w _ hx172_3)).trans hx172_3
                      replace hx172_4 := (HB.out.cell (World.block_lt_of_cell? w _ hx172_4)).trans hx172_4
                      replace hx172_5 := (HB.out.cell (World.block_lt_of_cell? w _ hx172_5)).trans hx172_5
                      replace hx172_6 := (HB.out.cell (World.block_lt_of_cell? w _ hx172_6)).trans hx172_6
                      replace hx172_7 := (HB.out.cell (World.block_lt_of_cell? w _ hx172_7)).trans hx172_7
                      replace hx172_8 := (HB.out.cell (World.block_lt_of_cell? w _ hx172_8)).trans hx172_8
                      replace hx172_9 := (HB.out.cell (World.block_lt_of_cell? w _ hx172_9)).trans hx172_9
                      replace hx172_10 := (HB.out.cell (World.block_lt_of_cell? w _ hx172_10)).trans hx172_10
                      replace hx172_11 := (HB.out.cell (World.block_lt_of_cell? w _ hx172_11)).trans hx172_11
                      have HR172_3 := Aside0.mk hi172_3
                      have HC172_3 := Aside0.mk hl172_3
                      clear hi172_3 hl172_3
                      have HR172_4 := Aside0.mk hi172_4
                      have HC172_4 := Aside0.mk hl172_4
                      clear hi172_4 hl172_4
                      have HR172_9 := Aside0.mk hi172_9
                      have HC172_9 := Aside0.mk hl172_9
                      clear hi172_9 hl172_9
                      have HR172_10 := Aside0.mk hi172_10
                      have HC172_10 := Aside0.mk hl172_10
                      clear hi172_10 hl172_10
                      have HR172_11 := Aside0.mk hi172_11
                      have HC172_11 := Aside0.mk hl172_11
                      clear hi172_11 hl172_11
                      replace p172 := eq_true p172
                      replace q172 := eq_true q172
                      have p174 : 0 ≤ (x5_2 : Int) := of_decide_eq_true (by first | (with_reducible assumption) | assumption)
                      have q174 : x5_2 < (l0_11.length : Int) := of_decide_eq_true (by first | (with_reducible assumption) | assumption)
                      obtain ⟨ad174, A174_3, c174_3, A174_4, c174_4, A174_9, c174_9, A174_10, c174_10, A174_11, c174_11, e174, hx174_0, hx174_1, hx174_2, hx174_3, hx174_4, hx174_5, hx174_6, hx174_7, hx174_8, hx174_9, hx174_10, hx174_11, hl174_3, hi174_3, hl174_4, hi174_4, hl174_9, hi174_9, hl174_10, hi174_10, hl174_11, hi174_11⟩ := at_T80 HR0_11.out x5_2 p174 q174
                      have hw174_11 := hx174_11
                      have hw174_10 := hx174_10
                      have hw174_9 := hx174_9
                      have hw174_8 := hx174_8
                      have hw174_7 := hx174_7
                      have hw174_6 := hx174_6
                      have hw174_5 := hx174_5
                      have hw174_4 := hx174_4
                      have hw174_3 := hx174_3
                      have hw174_2 := hx174_2
                      have hw174_1 := hx174_1
                      have hw174_0 := hx174_0
                      obtain rfl : ad172 = ad174 := (by injection e174)
                      replace hx174_0 := (HB.out.cell (World.block_lt_of_cell? w _ hx174_0)).trans hx174_0
                      replace hx174_1 := (HB.out.cell (World.block_lt_of_cell? w _ hx174_1)).trans hx174_1
                      replace hx174_2 := (HB.out.cell (World.block_lt_of_cell? w _ hx174_2)).trans hx174_2
                      replace hx174_3 := (HB.out.cell (World.block_lt_of_cell? w _ hx174_3)).trans hx174_3
                      replace hx174_4 := (HB.out.cell (World.block_lt_of_cell? w _ hx174_4)).trans hx174_4
                      replace hx174_5 := (HB.out.cell (World.block_lt_of_cell? w _ hx174_5)).trans hx174_5
                      replace hx174_6 := (HB.out.cell (World.block_lt_of_cell? w _ hx174_6)).trans hx174_6
                      replace hx174_7 := (HB.out.cell (World.block_lt_of_cell? w _ hx174_7)).trans hx174_7
                      replace hx174_8 := (HB.out.cell (World.block_lt_of_cell? w _ hx174_8)).trans hx174_8
                      replace hx174_9 := (HB.out.cell (World.block_lt_of_cell? w _ hx174_9)).trans hx174_9
                      replace hx174_10 := (HB.out.cell (World.block_lt_of_cell? w _ hx174_10)).trans hx174_10
                      replace hx174_11 := (HB.out.cell (World.block_lt_of_cell? w _ hx174_11)).trans hx174_11
                      have HR174_3 := Aside0.mk hi174_3
                      have HC174_3 := Aside0.mk hl174_3
                      clear hi174_3 hl174_3
                      have HR174_4 := Aside0.mk hi174_4
                      have HC174_4 := Aside0.mk hl174_4
                      clear hi174_4 hl174_4
                      have HR174_9 := Aside0.mk hi174_9
                      have HC174_9 := Aside0.mk hl174_9
                      clear hi174_9 hl174_9
                      have HR174_10 := Aside0.mk hi174_10
                      have HC174_10 := Aside0.mk hl174_10
                      clear hi174_10 hl174_10
                      have HR174_11 := Aside0.mk hi174_11
                      have HC174_11 := Aside0.mk hl174_11
                      clear hi174_11 hl174_11
                      replace p174 := eq_true p174
                      replace q174 := eq_true q174
                      refine start_ (n := 21) (S := fun w' => w'.cell? ⟨gb168, 0, none⟩ = some (.int .i64 a0_0) ∧ w'.cell? ⟨gb168, 1, none⟩ = some (.string a0_1) ∧ w'.cell? ⟨gb168, 2, none⟩ = some (.int .i64 a0_2) ∧ w'.cell? ⟨gb168, 3, none⟩ = some (.slice A0_3 l0_3.length c0_3) ∧ w'.cell? ⟨gb168, 4, none⟩ = some (.slice A0_4 l0_4.length c0_4) ∧ w'.cell? ⟨gb168, 5, none⟩ = some (.int .i64 a0_5) ∧ w'.cell? ⟨gb168, 6, none⟩ = some (.int .i64 a0_6) ∧ w'.cell? ⟨gb168, 7, none⟩ = some (.string a0_7) ∧ w'.cell? ⟨gb168, 8, none⟩ = some (.int .i64 a0_8) ∧ w'.cell? ⟨gb168, 9, none⟩ = some (.slice A0_9 l0_9.length c0_9) ∧ w'.cell? ⟨gb168, 10, none⟩ = some (.slice A0_10 l0_10.length c0_10) ∧ w'.cell? ⟨gb168, 11, none⟩ = some (.slice (some ad172) l0_11.length c0_11) ∧ w'.cell? (ad172.add ((x5_2).toNat * 12)) = some (.int .i64 ((rd_T80 l0_11 x5_2).f0.f0)) ∧ w'.cell? ⟨(ad172.add ((x5_2).toNat * 12)).block, (ad172.add ((x5_2).toNat * 12)).off + 1, none⟩ = some (.string ((rd_T80 l0_11 x5_2).f0.f1)) ∧ w'.cell? ⟨(ad172.add ((x5_2).toNat * 12)).block, (ad172.add ((x5_2).toNat * 12)).off + 2, none⟩ = some (.int .i64 ((rd_T80 l0_11 x5_2).f0.f2)) ∧ w'.cell? ⟨(ad172.add ((x5_2).toNat * 12)).block, (ad172.add ((x5_2).toNat * 12)).off + 3, none⟩ = some (.slice A172_3 ((rd_T80 l0_11 x5_2).f0.f3).length c172_3) ∧ w'.cell? ⟨(ad172.add ((x5_2).toNat * 12)).block, (ad172.add ((x5_2).toNat * 12)).off + 4, none⟩ = some (.slice A172_4 ((rd_T80 l0_11 x5_2).f0.f4).length c172_4) ∧ w'.cell? ⟨(ad172.add ((x5_2).toNat * 12)).block, (ad172.add ((x5_2).toNat * 12)).off + 5, none⟩ = some (.int .i64 ((rd_T80 l0_11 x5_2).f1)) ∧ w'.cell? ⟨(ad172.add ((x5_2).toNat * 12)).block, (ad172.add ((x5_2).toNat * 12)).off + 6, none⟩ = some (.int .i64 ((rd_T80 l0_11 x5_2).f2.f0)) ∧ w'.cell? ⟨(ad172.add ((x5_2).toNat * 12)).block, (ad172.add ((x5_2).toNat * 12)).off + 7, none⟩ = some (.string ((rd_T80 l0_11 x5_2).f2.f1)) ∧ w'.cell? ⟨(ad172.add ((x5_2).toNat * 12)).block, (ad172.add ((x5_2).toNat * 12)).off + 8, none⟩ = some (.int .i64 ((rd_T80 l0_11 x5_2).f2.f2)) ∧ w'.cell? ⟨(ad172.add ((x5_2).toNat * 12)).block, (ad172.add ((x5_2).toNat * 12)).off + 9, none⟩ = some (.slice A172_9 ((rd_T80 l0_11 x5_2).f2.f3).length c172_9) ∧ w'.cell? ⟨(ad172.add ((x5_2).toNat * 12)).block, (ad172.add ((x5_2).toNat * 12)).off + 10, none⟩ = some (.slice A172_10 ((rd_T80 l0_11 x5_2).f2.f4).length c172_10) ∧ w'.cell? ⟨(ad172.add ((x5_2).toNat * 12)).block, (ad172.add ((x5_2).toNat * 12)).off + 11, none⟩ = some (.slice A172_11 ((rd_T80 l0_11 x5_2).f3).length c172_11) ∧ w'.cell? (ad172.add ((x5_2).toNat * 12)) = some (.int .i64 ((rd_T80 l0_11 x5_2).f0.f0)) ∧ w'.cell? ⟨(ad172.add ((x5_2).toNat * 12)).block, (ad172.add ((x5_2).toNat * 12)).off + 1, none⟩ = some (.string ((rd_T80 l0_11 x5_2).f0.f1)) ∧ w'.cell? ⟨(ad172.add ((x5_2).toNat * 12)).block, (ad172.add ((x5_2).toNat * 12)).off + 2, none⟩ = some (.int .i64 ((rd_T80 l0_11 x5_2).f0.f2)) ∧ w'.cell? ⟨(ad172.add ((x5_2).toNat * 12)).block, (ad172.add ((x5_2).toNat * 12)).off + 3, none⟩ = some (.slice A174_3 ((rd_T80 l0_11 x5_2).f0.f3).length c174_3) ∧ w'.cell? ⟨(ad172.add ((x5_2).toNat * 12)).block, (ad172.add ((x5_2).toNat * 12)).off + 4, none⟩ = some (.slice A174_4 ((rd_T80 l0_11 x5_2).f0.f4).length c174_4) ∧ w'.cell? ⟨(ad172.add ((x5_2).toNat * 12)).block, (ad172.add ((x5_2).toNat * 12)).off + 5, none⟩ = some (.int .i64 ((rd_T80 l0_11 x5_2).f1)) ∧ w'.cell? ⟨(ad172.add ((x5_2).toNat * 12)).block, (ad172.add ((x5_2).toNat * 12)).off + 6, none⟩ = some (.int .i64 ((rd_T80 l0_11 x5_2).f2.f0)) ∧ w'.cell? ⟨(ad172.add ((x5_2).toNat * 12)).block, (ad172.add ((x5_2).toNat * 12)).off + 7, none⟩ = some (.string ((rd_T80 l0_11 x5_2).f2.f1)) ∧ w'.cell? ⟨(ad172.add ((x5_2).toNat * 12)).block, (ad172.add ((x5_2).toNat * 12)).off + 8, none⟩ = some (.int .i64 ((rd_T80 l0_11 x5_2).f2.f2)) ∧ w'.cell? ⟨(ad172.add ((x5_2).toNat * 12)).block, (ad172.add ((x5_2).toNat * 12)).off + 9, none⟩ = some (.slice A174_9 ((rd_T80 l0_11 x5_2).f2.f3).length c174_9) ∧ w'.cell? ⟨(ad172.add ((x5_2).toNat * 12)).block, (ad172.add ((x5_2).toNat * 12)).off + 10, none⟩ = some (.slice A174_10 ((rd_T80 l0_11 x5_2).f2.f4).length c174_10) ∧ w'.cell? ⟨(ad172.add ((x5_2).toNat * 12)).block, (ad172.add ((x5_2).toNat * 12)).off + 11, none⟩ = some (.slice A174_11 ((rd_T80 l0_11 x5_2).f3).length c174_11)) (ds := []) #[false, false, false, false, false, false, false, false, false, false, false, false, false, false, false, false, false, false, false, false, false] (by kernel_rfl) rfl rfl ⟨(blk_cell BK168.out 0).trans rfl, (blk_cell BK168.out 1).trans rfl, (blk_cell BK168.out 2).trans rfl, (blk_cell BK168.out 3).trans rfl, (blk_cell BK168.out 4).trans rfl, (blk_cell BK168.out 5).trans rfl, (blk_cell BK168.out 6).trans rfl, (blk_cell BK168.out 7).trans rfl, (blk_cell BK168.out 8).trans rfl, (blk_cell BK168.out 9).trans rfl, (blk_cell BK168.out 10).trans rfl, (blk_cell BK168.out 11).trans rfl, ((HB.out.cell (World.block_lt_of_cell? w _ hw172_0)).trans hw172_0), ((HB.out.cell (World.block_lt_of_cell? w _ hw172_1)).trans hw172_1), ((HB.out.cell (World.block_lt_of_cell? w _ hw172_2)).trans hw172_2), ((HB.out.cell (World.block_lt_of_cell? w _ hw172_3)).trans hw172_3), ((HB.out.cell (World.block_lt_of_cell? w _ hw172_4)).trans hw172_4), ((HB.out.cell (World.block_lt_of_cell? w _ hw172_5)).trans hw172_5), ((HB.out.cell (World.block_lt_of_cell? w _ hw172_6)).trans hw172_6), ((HB.out.cell (World.block_lt_of_cell? w _ hw172_7)).trans hw172_7), ((HB.out.cell (World.block_lt_of_cell? w _ hw172_8)).trans hw172_8), ((HB.out.cell (World.block_lt_of_cell? w _ hw172_9)).trans hw172_9), ((HB.out.cell (World.block_lt_of_cell? w _ hw172_10)).trans hw172_10), ((HB.out.cell (World.block_lt_of_cell? w _ hw172_11)).trans hw172_11), ((HB.out.cell (World.block_lt_of_cell? w _ hw174_0)).trans hw174_0), ((HB.out.cell (World.block_lt_of_cell? w _ hw174_1)).trans hw174_1), ((HB.out.cell (World.block_lt_of_cell? w _ hw174_2)).trans hw174_2), ((HB.out.cell (World.block_lt_of_cell? w _ hw174_3)).trans hw174_3), ((HB.out.cell (World.block_lt_of_cell? w _ hw174_4)).trans hw174_4), ((HB.out.cell (World.block_lt_of_cell? w _ hw174_5)).trans hw174_5), ((HB.out.cell (World.block_lt_of_cell? w _ hw174_6)).trans hw174_6), ((HB.out.cell (World.block_lt_of_cell? w _ hw174_7)).trans hw174_7), ((HB.out.cell (World.block_lt_of_cell? w _ hw174_8)).trans hw174_8), ((HB.out.cell (World.block_lt_of_cell? w _ hw174_9)).trans hw174_9), ((HB.out.cell (World.block_lt_of_cell? w _ hw174_10)).trans hw174_10), ((HB.out.cell (World.block_lt_of_cell? w _ hw174_11)).trans hw174_11)⟩ (fun hHeld => ?_); refine with_tabW spec_l4Hit.tab8 spec_l4Hit.bits8 (fun HT_ HW_ => ?_)
                      generalize wr.drew = w38 at BK168 HB HR172_10 HR172_11 HR172_3 HR172_4 HR172_9 HR174_10 HR174_11 HR174_3 HR174_4 HR174_9 hx172_0 hx172_1 hx172_10 hx172_11 hx172_2 hx172_3 hx172_4 hx172_5 hx172_6 hx172_7 hx172_8 hx172_9 hx174_0 hx174_1 hx174_10 hx174_11 hx174_2 hx174_3 hx174_4 hx174_5 hx174_6 hx174_7 hx174_8 hx174_9 hHeld ⊢
                      refine pure_ (i := 0) (N := some 54) (v := ?_) (a' := ?_) #[true, false, false, false, false, false, false, false, false, false, false, false, false, false, false, false, false, false, false, false, false] rfl rfl (any_of HT_.out (by kernel_rfl)) (fun _ _ _ h => h) (Or.inl ⟨by rfl, ?_⟩) ?_ ?_
                      rotate_left
                      · intro w'
                        go_simp
                        with_reducible rfl
                      rotate_left
                      · simp only [Act.put, List.setIfInBounds_toArray, List.set_cons_zero, List.set_cons_succ, i64_w, i32_w]
                        rfl
                      refine pure_ (i := 2) (N := some 56) (v := ?_) (a' := ?_) #[true, false, true, false, false, false, false, false, false, false, false, false, false, false, false, false, false, false, false, false, false] rfl rfl (any_of HT_.out (by kernel_rfl)) (fun _ _ _ h => h) (Or.inl ⟨by rfl, ?_⟩) ?_ ?_
                      rotate_left
                      · intro w'
                        go_simp
                        with_reducible rfl
                      rotate_left
                      · simp only [Act.put, List.setIfInBounds_toArray, List.set_cons_zero, List.set_cons_succ, i64_w, i32_w]
                        rfl
                      refine pure_ (i := 6) (N := some 60) (v := ?_) (a' := ?_) #[true, false, true, false, false, false, true, false, false, false, false, false, false, false, false, false, false, false, false, false, false] rfl rfl (any_of HT_.out (by kernel_rfl)) (fun _ _ _ h => h) (Or.inl ⟨by rfl, ?_⟩) ?_ ?_
                      rotate_left
                      · intro w'
                        go_simp
                        with_reducible rfl
                      rotate_left
                      · simp only [Act.put, List.setIfInBounds_toArray, List.set_cons_zero, List.set_cons_succ, i64_w, i32_w]
                        rfl
                      refine take_ (i := 1) (N := some 55) (v := ?_) (a' := ?_) #[true, true, true, false, false, false, true, false, false, false, false, false, false, false, false, false, false, false, false, false, false] rfl rfl (take_ofW HT_.out HW_.out (by kernel_rfl)) (fun _ _ _ h => h) (Or.inl ⟨by rfl, ?_⟩) hHeld ?_ ?_
                      rotate_left
                      · rintro w' ⟨s0, s1, s2, s3, s4, s5, s6, s7, s8, s9, s10, s11, s12, s13, s14, s15, s16, s17, s18, s19, s20, s21, s22, s23, s24, s25, s26, s27, s28, s29, s30, s31, s32, s33, s34, s35⟩
                        go_simp
                        with_reducible rfl
                      rotate_left
                      · simp only [Act.put, List.setIfInBounds_toArray, List.set_cons_zero, List.set_cons_succ, i64_w, i32_w]
                        rfl
                      refine pure_ (i := 3) (N := some 57) (v := ?_) (a' := ?_) #[true, true, true, true, false, false, true, false, false, false, false, false, false, false, false, false, false, false, false, false, false] rfl rfl (any_of HT_.out (by kernel_rfl)) (fun _ _ _ h => h) (Or.inl ⟨by rfl, ?_⟩) ?_ ?_
                      rotate_left
                      · intro w'
                        go_simp
                        with_reducible rfl
                      rotate_left
                      · simp only [Act.put, List.setIfInBounds_toArray, List.set_cons_zero, List.set_cons_succ, i64_w, i32_w]
                        rfl
                      refine pure_ (i := 4) (N := some 58) (v := ?_) (a' := ?_) #[true, true, true, true, true, false, true, false, false, false, false, false, false, false, false, false, false, false, false, false, false] rfl rfl (any_of HT_.out (by kernel_rfl)) (fun _ _ _ h => h) (Or.inl ⟨by rfl, ?_⟩) ?_ ?_
                      rotate_left
                      · intro w'
                        go_simp
                        with_reducible rfl
                      rotate_left
                      · simp only [Act.put, List.setIfInBounds_toArray, List.set_cons_zero, List.set_cons_succ, i64_w, i32_w]
                        rfl
                      refine take_ (i := 5) (N := some 59) (v := ?_) (a' := ?_) #[true, true, true, true, true, true, true, false, false, false, false, false, false, false, false, false, false, false, false, false, false] rfl rfl (take_ofW HT_.out HW_.out (by kernel_rfl)) (fun _ _ _ h => h) (Or.inl ⟨by rfl, ?_⟩) hHeld ?_ ?_
                      rotate_left
                      · rintro w' ⟨s0, s1, s2, s3, s4, s5, s6, s7, s8, s9, s10, s11, s12, s13, s14, s15, s16, s17, s18, s19, s20, s21, s22, s23, s24, s25, s26, s27, s28, s29, s30, s31, s32, s33, s34, s35⟩
                        go_simp
                        with_reducible rfl
                      rotate_left
                      · simp only [Act.put, List.setIfInBounds_toArray, List.set_cons_zero, List.set_cons_succ, i64_w, i32_w]
                        rfl
                      refine take_ (i := 7) (N := some 61) (v := ?_) (a' := ?_) #[true, true, true, true, true, true, true, true, false, false, false, false, false, false, false, false, false, false, false, false, false] rfl rfl (take_ofW HT_.out HW_.out (by kernel_rfl)) (fun _ _ _ h => h) (Or.inl ⟨by rfl, ?_⟩) hHeld ?_ ?_
                      rotate_left
                      · rintro w' ⟨s0, s1, s2, s3, s4, s5, s6, s7, s8, s9, s10, s11, s12, s13, s14, s15, s16, s17, s18, s19, s20, s21, s22, s23, s24, s25, s26, s27, s28, s29, s30, s31, s32, s33, s34, s35⟩
                        go_simp
                        with_reducible rfl
                      rotate_left
                      · simp only [Act.put, List.setIfInBounds_toArray, List.set_cons_zero, List.set_cons_succ, i64_w, i32_w]
                        rfl
                      refine one_ (i := 8) (N := some 62) #[true, true, true, true, true, true, true, true, true, false, false, false, false, false, false, false, false, false, false, false, false] rfl rfl (one_of HT_.out (by kernel_rfl)) (by decide) (fun K hK => ?_)
                      refine goes_ Try.func63 (by kernel_rfl) rfl #[.agg #[.int .i64 ((rd_T80 l0_11 x5_2).f0.f0), .string ((rd_T80 l0_11 x5_2).f0.f1), .int .i64 ((rd_T80 l0_11 x5_2).f0.f2), .slice A172_3 ((rd_T80 l0_11 x5_2).f0.f3).length c172_3, .slice A172_4 ((rd_T80 l0_11 x5_2).f0.f4).length c172_4], .agg #[.int .i64 a0_0, .string a0_1, .int .i64 a0_2, .slice A0_3 l0_3.length c0_3, .slice A0_4 l0_4.length c0_4]] (by rfl) rfl rfl (by (try simp only [List.map_toArray, List.map_cons, List.map_nil]); first | done | rfl | (simp only [List.length_drop, List.length_take]; rfl)) ?_
                      with_reducible refine (spec_FormSame.calls ((rd_T80 l0_11 x5_2).f0.f0) ((rd_T80 l0_11 x5_2).f0.f1) ((rd_T80 l0_11 x5_2).f0.f2) _ _ ((rd_T80 l0_11 x5_2).f0.f3) _ _ ((rd_T80 l0_11 x5_2).f0.f4) a0_0 a0_1 a0_2 _ _ l0_3 _ _ l0_4 true _ ?side1 ?side2 ?side3 ?side4 ?side5 ?side6 ?side7 ?side8 A33.out).mono ?_
                      (case side1 => repeat (first | exact (Kd.C_below HR172_3.out HB.out) | (with_reducible refine Kd.C_alloc ?_ _) | (with_reducible refine Kd.C_drewN ?_ _) | (with_reducible refine Kd.C_drew ?_)))
                      (case side2 => exact HC172_3.out)
                      (case side3 => repeat (first | exact (Kd.C_below HR172_4.out HB.out) | (with_reducible refine Kd.C_alloc ?_ _) | (with_reducible refine Kd.C_drewN ?_ _) | (with_reducible refine Kd.C_drew ?_)))
                      (case side4 => exact HC172_4.out)
                      (case side5 => repeat (first | exact (Kd.C_below HR0_3.out HB.out) | (with_reducible refine Kd.C_alloc ?_ _) | (with_reducible refine Kd.C_drewN ?_ _) | (with_reducible refine Kd.C_drew ?_)))
                      (case side6 => exact HC0_3.out)
                      (case side7 => repeat (first | exact (Kd.C_below HR0_4.out HB.out) | (with_reducible refine Kd.C_alloc ?_ _) | (with_reducible refine Kd.C_drewN ?_ _) | (with_reducible refine Kd.C_drew ?_)))
                      (case side8 => exact HC0_4.out)
                      rintro e w39 ⟨rfl, hb⟩
                      refine ⟨_, rfl, ?_⟩
                      have n0_ := Aside0.mk (blk_below (g := gb168) (o := .cells #[.int .i64 a0_0, .string a0_1, .int .i64 a0_2, .slice A0_3 l0_3.length c0_3, .slice A0_4 l0_4.length c0_4, .int .i64 a0_5, .int .i64 a0_6, .string a0_7, .int .i64 a0_8, .slice A0_9 l0_9.length c0_9, .slice A0_10 l0_10.length c0_10, .slice (some ad172) l0_11.length c0_11] 80 (0, 0)) (by (with_reducible repeat (first | refine blk_drewN ?_ _ | refine blk_drew ?_ | refine blk_alloc ?_ _)); exact BK168.out) hb)
                      have n1_ := Aside0.mk (below_step (by repeat (first | (with_reducible first | exact HB.out | apply below_alloc | apply pw_below_drewN | apply below_drew1 | refine below_set ?_ GE168.out) | exact HB.out)) hb)
                      clear BK168
                      clear HB
                      have BK168 := n0_
                      have HB := n1_
                      clear n0_ n1_
                      (try clear hb)
                      (try clear hb2)
                      (try clear hk)
                      (try clear hi)
                      refine hK.out _ _ ⟨(blk_cell BK168.out 0).trans rfl, (blk_cell BK168.out 1).trans rfl, (blk_cell BK168.out 2).trans rfl, (blk_cell BK168.out 3).trans rfl, (blk_cell BK168.out 4).trans rfl, (blk_cell BK168.out 5).trans rfl, (blk_cell BK168.out 6).trans rfl, (blk_cell BK168.out 7).trans rfl, (blk_cell BK168.out 8).trans rfl, (blk_cell BK168.out 9).trans rfl, (blk_cell BK168.out 10).trans rfl, (blk_cell BK168.out 11).trans rfl, ((HB.out.cell (World.block_lt_of_cell? w _ hw172_0)).trans hw172_0), ((HB.out.cell (World.block_lt_of_cell? w _ hw172_1)).trans hw172_1), ((HB.out.cell (World.block_lt_of_cell? w _ hw172_2)).trans hw172_2), ((HB.out.cell (World.block_lt_of_cell? w _ hw172_3)).trans hw172_3), ((HB.out.cell (World.block_lt_of_cell? w _ hw172_4)).trans hw172_4), ((HB.out.cell (World.block_lt_of_cell? w _ hw172_5)).trans hw172_5), ((HB.out.cell (World.block_lt_of_cell? w _ hw172_6)).trans hw172_6), ((HB.out.cell (World.block_lt_of_cell? w _ hw172_7)).trans hw172_7), ((HB.out.cell (World.block_lt_of_cell? w _ hw172_8)).trans hw172_8), ((HB.out.cell (World.block_lt_of_cell? w _ hw172_9)).trans hw172_9), ((HB.out.cell (World.block_lt_of_cell? w _ hw172_10)).trans hw172_10), ((HB.out.cell (World.block_lt_of_cell? w _ hw172_11)).trans hw172_11), ((HB.out.cell (World.block_lt_of_cell? w _ hw174_0)).trans hw174_0), ((HB.out.cell (World.block_lt_of_cell? w _ hw174_1)).trans hw174_1), ((HB.out.cell (World.block_lt_of_cell? w _ hw174_2)).trans hw174_2), ((HB.out.cell (World.block_lt_of_cell? w _ hw174_3)).trans hw174_3), ((HB.out.cell (World.block_lt_of_cell? w _ hw174_4)).trans hw174_4), ((HB.out.cell (World.block_lt_of_cell? w _ hw174_5)).trans hw174_5), ((HB.out.cell (World.block_lt_of_cell? w _ hw174_6)).trans hw174_6), ((HB.out.cell (World.block_lt_of_cell? w _ hw174_7)).trans hw174_7), ((HB.out.cell (World.block_lt_of_cell? w _ hw174_8)).trans hw174_8), ((HB.out.cell (World.block_lt_of_cell? w _ hw174_9)).trans hw174_9), ((HB.out.cell (World.block_lt_of_cell? w _ hw174_10)).trans hw174_10), ((HB.out.cell (World.block_lt_of_cell? w _ hw174_11)).trans hw174_11)⟩ (fun hHeld => ?_)
                      clear hK K
                      refine norm_ (a' := ?_) ?_ ?_
                      rotate_left
                      · show Act.put _ (some 62) _ = _
                        simp only [Act.put, List.setIfInBounds_toArray, List.set_cons_zero, List.set_cons_succ, i64_w, i32_w]
                        rfl
                      refine pure_ (i := 9) (N := some 63) (v := ?_) (a' := ?_) #[true, true, true, true, true, true, true, true, true, true, false, false, false, false, false, false, false, false, false, false, false] rfl rfl (any_of HT_.out (by kernel_rfl)) (fun _ _ _ h => h) (Or.inl ⟨by rfl, ?_⟩) ?_ ?_
                      rotate_left
                      · intro w'
                        go_simp
                        with_reducible rfl
                      rotate_left
                      · simp only [Act.put, List.setIfInBounds_toArray, List.set_cons_zero, List.set_cons_succ, i64_w, i32_w]
                        rfl
                      refine pure_ (i := 10) (N := some 64) (v := ?_) (a' := ?_) #[true, true, true, true, true, true, true, true, true, true, true, false, false, false, false, false, false, false, false, false, false] rfl rfl (any_of HT_.out (by kernel_rfl)) (fun _ _ _ h => h) (Or.inl ⟨by rfl, ?_⟩) ?_ ?_
                      rotate_left
                      · intro w'
                        go_simp
                        with_reducible rfl
                      rotate_left
                      · simp only [Act.put, List.setIfInBounds_toArray, List.set_cons_zero, List.set_cons_succ, i64_w, i32_w]
                        rfl
                      refine pure_ (i := 11) (N := some 65) (v := ?_) (a' := ?_) #[true, true, true, true, true, true, true, true, true, true, true, true, false, false, false, false, false, false, false, false, false] rfl rfl (any_of HT_.out (by kernel_rfl)) (fun _ _ _ h => h) (Or.inl ⟨by rfl, ?_⟩) ?_ ?_
                      rotate_left
                      · intro w'
                        go_simp
                        with_reducible rfl
                      rotate_left
                      · simp only [Act.put, List.setIfInBounds_toArray, List.set_cons_zero, List.set_cons_succ, i64_w, i32_w]
                        rfl
                      refine pure_ (i := 13) (N := some 67) (v := ?_) (a' := ?_) #[true, true, true, true, true, true, true, true, true, true, true, true, false, true, false, false, false, false, false, false, false] rfl rfl (any_of HT_.out (by kernel_rfl)) (fun _ _ _ h => h) (Or.inl ⟨by rfl, ?_⟩) ?_ ?_
                      rotate_left
                      · intro w'
                        go_simp
                        with_reducible rfl
                      rotate_left
                      · simp only [Act.put, List.setIfInBounds_toArray, List.set_cons_zero, List.set_cons_succ, i64_w, i32_w]
                        rfl
                      refine pure_ (i := 16) (N := some 70) (v := ?_) (a' := ?_) #[true, true, true, true, true, true, true, true, true, true, true, true, false, true, false, false, true, false, false, false, false] rfl rfl (any_of HT_.out (by kernel_rfl)) (fun _ _ _ h => h) (Or.inl ⟨by rfl, ?_⟩) ?_ ?_
                      rotate_left
                      · intro w'
                        go_simp
                        with_reducible rfl
                      rotate_left
                      · simp only [Act.put, List.setIfInBounds_toArray, List.set_cons_zero, List.set_cons_succ, i64_w, i32_w]
                        rfl
                      refine pure_ (i := 17) (N := some 71) (v := ?_) (a' := ?_) #[true, true, true, true, true, true, true, true, true, true, true, true, false, true, false, false, true, true, false, false, false] rfl rfl (any_of HT_.out (by kernel_rfl)) (fun _ _ _ h => h) (Or.inl ⟨by rfl, ?_⟩) ?_ ?_
                      rotate_left
                      · intro w'
                        go_simp
                        with_reducible rfl
                      rotate_left
                      · simp only [Act.put, List.setIfInBounds_toArray, List.set_cons_zero, List.set_cons_succ, i64_w, i32_w]
                        rfl
                      refine take_ (i := 12) (N := some 66) (v := ?_) (a' := ?_) #[true, true, true, true, true, true, true, true, true, true, true, true, true, true, false, false, true, true, false, false, false] rfl rfl (take_ofW HT_.out HW_.out (by kernel_rfl)) (fun _ _ _ h => h) (Or.inl ⟨by rfl, ?_⟩) hHeld ?_ ?_
                      rotate_left
                      · rintro w' ⟨s0, s1, s2, s3, s4, s5, s6, s7, s8, s9, s10, s11, s12, s13, s14, s15, s16, s17, s18, s19, s20, s21, s22, s23, s24, s25, s26, s27, s28, s29, s30, s31, s32, s33, s34, s35⟩
                        go_simp
                        with_reducible rfl
                      rotate_left
                      · simp only [Act.put, List.setIfInBounds_toArray, List.set_cons_zero, List.set_cons_succ, i64_w, i32_w]
                        rfl
                      refine pure_ (i := 14) (N := some 68) (v := ?_) (a' := ?_) #[true, true, true, true, true, true, true, true, true, true, true, true, true, true, true, false, true, true, false, false, false] rfl rfl (any_of HT_.out (by kernel_rfl)) (fun _ _ _ h => h) (Or.inl ⟨by rfl, ?_⟩) ?_ ?_
                      rotate_left
                      · intro w'
                        go_simp
                        with_reducible rfl
                      rotate_left
                      · simp only [Act.put, List.setIfInBounds_toArray, List.set_cons_zero, List.set_cons_succ, i64_w, i32_w]
                        rfl
                      refine take_ (i := 15) (N := some 69) (v := ?_) (a' := ?_) #[true, true, true, true, true, true, true, true, true, true, true, true, true, true, true, true, true, true, false, false, false] rfl rfl (take_ofW HT_.out HW_.out (by kernel_rfl)) (fun _ _ _ h => h) (Or.inl ⟨by rfl, ?_⟩) hHeld ?_ ?_
                      rotate_left
                      · rintro w' ⟨s0, s1, s2, s3, s4, s5, s6, s7, s8, s9, s10, s11, s12, s13, s14, s15, s16, s17, s18, s19, s20, s21, s22, s23, s24, s25, s26, s27, s28, s29, s30, s31, s32, s33, s34, s35⟩
                        go_simp
                        with_reducible rfl
                      rotate_left
                      · simp only [Act.put, List.setIfInBounds_toArray, List.set_cons_zero, List.set_cons_succ, i64_w, i32_w]
                        rfl
                      refine one_ (i := 18) (N := some 72) #[true, true, true, true, true, true, true, true, true, true, true, true, true, true, true, true, true, true, true, false, false] rfl rfl (one_of HT_.out (by kernel_rfl)) (by decide) (fun K hK => ?_)
                      refine goes_ Try.func68 (by kernel_rfl) rfl #[.agg #[.int .i64 ((rd_T80 l0_11 x5_2).f0.f0), .string ((rd_T80 l0_11 x5_2).f0.f1), .int .i64 ((rd_T80 l0_11 x5_2).f0.f2), .slice A172_3 ((rd_T80 l0_11 x5_2).f0.f3).length c172_3, .slice A172_4 ((rd_T80 l0_11 x5_2).f0.f4).length c172_4, .int .i64 ((rd_T80 l0_11 x5_2).f1), .int .i64 ((rd_T80 l0_11 x5_2).f2.f0), .string ((rd_T80 l0_11 x5_2).f2.f1), .int .i64 ((rd_T80 l0_11 x5_2).f2.f2), .slice A172_9 ((rd_T80 l0_11 x5_2).f2.f3).length c172_9, .slice A172_10 ((rd_T80 l0_11 x5_2).f2.f4).length c172_10, .slice A172_11 ((rd_T80 l0_11 x5_2).f3).length c172_11], .int .i64 (wrap64 (a1 - 1))] (by rfl) rfl rfl (by (try simp only [List.map_toArray, List.map_cons, List.map_nil]); first | done | rfl | (simp only [List.length_drop, List.length_take]; rfl)) ?_
                      with_reducible refine (ih k2 (by have := HJ2.out; have := HK2.out; omega) ((rd_T80 l0_11 x5_2).f0.f0) ((rd_T80 l0_11 x5_2).f0.f1) ((rd_T80 l0_11 x5_2).f0.f2) _ _ ((rd_T80 l0_11 x5_2).f0.f3) _ _ ((rd_T80 l0_11 x5_2).f0.f4) ((rd_T80 l0_11 x5_2).f1) ((rd_T80 l0_11 x5_2).f2.f0) ((rd_T80 l0_11 x5_2).f2.f1) ((rd_T80 l0_11 x5_2).f2.f2) _ _ ((rd_T80 l0_11 x5_2).f2.f3) _ _ ((rd_T80 l0_11 x5_2).f2.f4) _ _ ((rd_T80 l0_11 x5_2).f3) (wrap64 (a1 - 1)) true _ ?side1 ?side2 ?side3 ?side4 ?side5 ?side6 ?side7 ?side8 ?side9 ?side10 A35.out).mono ?_
                      (case side1 => repeat (first | exact (Kd.C_below HR172_3.out HB.out) | (with_reducible refine Kd.C_alloc ?_ _) | (with_reducible refine Kd.C_drewN ?_ _) | (with_reducible refine Kd.C_drew ?_)))
                      (case side2 => exact HC172_3.out)
                      (case side3 => repeat (first | exact (Kd.C_below HR172_4.out HB.out) | (with_reducible refine Kd.C_alloc ?_ _) | (with_reducible refine Kd.C_drewN ?_ _) | (with_reducible refine Kd.C_drew ?_)))
                      (case side4 => exact HC172_4.out)
                      (case side5 => repeat (first | exact (Kd.C_below HR172_9.out HB.out) | (with_reducible refine Kd.C_alloc ?_ _) | (with_reducible refine Kd.C_drewN ?_ _) | (with_reducible refine Kd.C_drew ?_)))
                      (case side6 => exact HC172_9.out)
                      (case side7 => repeat (first | exact (Kd.C_below HR172_10.out HB.out) | (with_reducible refine Kd.C_alloc ?_ _) | (with_reducible refine Kd.C_drewN ?_ _) | (with_reducible refine Kd.C_drew ?_)))
                      (case side8 => exact HC172_10.out)
                      (case side9 => repeat (first | exact (Kd.C_below HR172_11.out HB.out) | (with_reducible refine Kd.C_alloc ?_ _) | (with_reducible refine Kd.C_drewN ?_ _) | (with_reducible refine Kd.C_drew ?_)))
                      (case side10 => exact HC172_11.out)
                      rintro e w40 ⟨rfl, hb⟩
                      refine ⟨_, rfl, ?_⟩
                      have n0_ := Aside0.mk (blk_below (g := gb168) (o := .cells #[.int .i64 a0_0, .string a0_1, .int .i64 a0_2, .slice A0_3 l0_3.length c0_3, .slice A0_4 l0_4.length c0_4, .int .i64 a0_5, .int .i64 a0_6, .string a0_7, .int .i64 a0_8, .slice A0_9 l0_9.length c0_9, .slice A0_10 l0_10.length c0_10, .slice (some ad172) l0_11.length c0_11] 80 (0, 0)) (by (with_reducible repeat (first | refine blk_drewN ?_ _ | refine blk_drew ?_ | refine blk_alloc ?_ _)); exact BK168.out) hb)
                      have n1_ := Aside0.mk (below_step (by repeat (first | (with_reducible first | exact HB.out | apply below_alloc | apply pw_below_drewN | apply below_drew1 | refine below_set ?_ GE168.out) | exact HB.out)) hb)
                      clear BK168
                      clear HB
                      have BK168 := n0_
                      have HB := n1_
                      clear n0_ n1_
                      (try clear hb)
                      (try clear hb2)
                      (try clear hk)
                      (try clear hi)
                      refine hK.out _ _ ⟨(blk_cell BK168.out 0).trans rfl, (blk_cell BK168.out 1).trans rfl, (blk_cell BK168.out 2).trans rfl, (blk_cell BK168.out 3).trans rfl, (blk_cell BK168.out 4).trans rfl, (blk_cell BK168.out 5).trans rfl, (blk_cell BK168.out 6).trans rfl, (blk_cell BK168.out 7).trans rfl, (blk_cell BK168.out 8).trans rfl, (blk_cell BK168.out 9).trans rfl, (blk_cell BK168.out 10).trans rfl, (blk_cell BK168.out 11).trans rfl, ((HB.out.cell (World.block_lt_of_cell? w _ hw172_0)).trans hw172_0), ((HB.out.cell (World.block_lt_of_cell? w _ hw172_1)).trans hw172_1), ((HB.out.cell (World.block_lt_of_cell? w _ hw172_2)).trans hw172_2), ((HB.out.cell (World.block_lt_of_cell? w _ hw172_3)).trans hw172_3), ((HB.out.cell (World.block_lt_of_cell? w _ hw172_4)).trans hw172_4), ((HB.out.cell (World.block_lt_of_cell? w _ hw172_5)).trans hw172_5), ((HB.out.cell (World.block_lt_of_cell? w _ hw172_6)).trans hw172_6), ((HB.out.cell (World.block_lt_of_cell? w _ hw172_7)).trans hw172_7), ((HB.out.cell (World.block_lt_of_cell? w _ hw172_8)).trans hw172_8), ((HB.out.cell (World.block_lt_of_cell? w _ hw172_9)).trans hw172_9), ((HB.out.cell (World.block_lt_of_cell? w _ hw172_10)).trans hw172_10), ((HB.out.cell (World.block_lt_of_cell? w _ hw172_11)).trans hw172_11), ((HB.out.cell (World.block_lt_of_cell? w _ hw174_0)).trans hw174_0), ((HB.out.cell (World.block_lt_of_cell? w _ hw174_1)).trans hw174_1), ((HB.out.cell (World.block_lt_of_cell? w _ hw174_2)).trans hw174_2), ((HB.out.cell (World.block_lt_of_cell? w _ hw174_3)).trans hw174_3), ((HB.out.cell (World.block_lt_of_cell? w _ hw174_4)).trans hw174_4), ((HB.out.cell (World.block_lt_of_cell? w _ hw174_5)).trans hw174_5), ((HB.out.cell (World.block_lt_of_cell? w _ hw174_6)).trans hw174_6), ((HB.out.cell (World.block_lt_of_cell? w _ hw174_7)).trans hw174_7), ((HB.out.cell (World.block_lt_of_cell? w _ hw174_8)).trans hw174_8), ((HB.out.cell (World.block_lt_of_cell? w _ hw174_9)).trans hw174_9), ((HB.out.cell (World.block_lt_of_cell? w _ hw174_10)).trans hw174_10), ((HB.out.cell (World.block_lt_of_cell? w _ hw174_11)).trans hw174_11)⟩ (fun hHeld => ?_)
                      clear hK K
                      refine norm_ (a' := ?_) ?_ ?_
                      rotate_left
                      · show Act.put _ (some 72) _ = _
                        simp only [Act.put, List.setIfInBounds_toArray, List.set_cons_zero, List.set_cons_succ, i64_w, i32_w]
                        rfl
                      refine pure_ (i := 19) (N := some 73) (v := ?_) (a' := ?_) #[true, true, true, true, true, true, true, true, true, true, true, true, true, true, true, true, true, true, true, true, false] rfl rfl (any_of HT_.out (by kernel_rfl)) (fun _ _ _ h => h) (Or.inl ⟨by rfl, ?_⟩) ?_ ?_
                      rotate_left
                      · intro w'
                        go_simp
                        with_reducible rfl
                      rotate_left
                      · simp only [Act.put, List.setIfInBounds_toArray, List.set_cons_zero, List.set_cons_succ, i64_w, i32_w]
                        rfl
                      refine pure_ (i := 20) (N := some 74) (v := ?_) (a' := ?_) #[true, true, true, true, true, true, true, true, true, true, true, true, true, true, true, true, true, true, true, true, true] rfl rfl (any_of HT_.out (by kernel_rfl)) (fun _ _ _ h => h) (Or.inl ⟨by rfl, ?_⟩) ?_ ?_
                      rotate_left
                      · intro w'
                        go_simp
                        with_reducible rfl
                      rotate_left
                      · simp only [Act.put, List.setIfInBounds_toArray, List.set_cons_zero, List.set_cons_succ, i64_w, i32_w]
                        rfl
                      refine done_ (done_of HT_.out (by kernel_rfl)) ?_
                      try go_wp2
                      go_roundg k2
                      case measure => have := HJ2.out; have := HK2.out; omega
                      case rel => exact ⟨(wrap64 (x5_2 + 1)), (by first | rfl | (simp; done) | (simp [*]; done)), H', ⟨by have := HJ2.out; have := HK2.out; omega⟩, ⟨by (with_reducible repeat (first | refine blk_drewN ?_ _ | refine blk_drew ?_ | refine blk_alloc ?_ _)); exact BK168.out⟩, ⟨by repeat (first | (with_reducible first | exact HB.out | apply below_alloc | apply pw_below_drewN | apply below_drew1 | refine below_set ?_ GE168.out) | exact HB.out)⟩⟩
                    · replace c36 := Bool.eq_false_iff.mpr c36
                      subst c36
                      have H1 : (some false) = some r := by rw [if_neg (show ¬ (false = true) by decide)] at H; exact H
                      clear H
                      have H := H1
                      clear H1
                      obtain rfl := Option.some.inj H
                      have hcz41_0 : wr.cell? ⟨gb168, 0, none⟩ = some (.int .i64 a0_0) := (blk_cell BK168.out 0).trans rfl
                      have hcz41_1 : wr.cell? ⟨gb168, 1, none⟩ = some (.string a0_1) := (blk_cell BK168.out 1).trans rfl
                      have hcz41_2 : wr.cell? ⟨gb168, 2, none⟩ = some (.int .i64 a0_2) := (blk_cell BK168.out 2).trans rfl
                      have hcz41_3 : wr.cell? ⟨gb168, 3, none⟩ = some (.slice A0_3 l0_3.length c0_3) := (blk_cell BK168.out 3).trans rfl
                      have hcz41_4 : wr.cell? ⟨gb168, 4, none⟩ = some (.slice A0_4 l0_4.length c0_4) := (blk_cell BK168.out 4).trans rfl
                      have hcz41_5 : wr.cell? ⟨gb168, 5, none⟩ = some (.int .i64 a0_5) := (blk_cell BK168.out 5).trans rfl
                      have hcz41_6 : wr.cell? ⟨gb168, 6, none⟩ = some (.int .i64 a0_6) := (blk_cell BK168.out 6).trans rfl
                      have hcz41_7 : wr.cell? ⟨gb168, 7, none⟩ = some (.string a0_7) := (blk_cell BK168.out 7).trans rfl
                      have hcz41_8 : wr.cell? ⟨gb168, 8, none⟩ = some (.int .i64 a0_8) := (blk_cell BK168.out 8).trans rfl
                      have hcz41_9 : wr.cell? ⟨gb168, 9, none⟩ = some (.slice A0_9 l0_9.length c0_9) := (blk_cell BK168.out 9).trans rfl
                      have hcz41_10 : wr.cell? ⟨gb168, 10, none⟩ = some (.slice A0_10 l0_10.length c0_10) := (blk_cell BK168.out 10).trans rfl
                      have hcz41_11 : wr.cell? ⟨gb168, 11, none⟩ = some (.slice A0_11 l0_11.length c0_11) := (blk_cell BK168.out 11).trans rfl
                      have hfz41_0 := blk_frozen BK168.out 0
                      have hfz41_1 := blk_frozen BK168.out 1
                      have hfz41_2 := blk_frozen BK168.out 2
                      have hfz41_3 := blk_frozen BK168.out 3
                      have hfz41_4 := blk_frozen BK168.out 4
                      have hfz41_5 := blk_frozen BK168.out 5
                      have hfz41_6 := blk_frozen BK168.out 6
                      have hfz41_7 := blk_frozen BK168.out 7
                      have hfz41_8 := blk_frozen BK168.out 8
                      have hfz41_9 := blk_frozen BK168.out 9
                      have hfz41_10 := blk_frozen BK168.out 10
                      have hfz41_11 := blk_frozen BK168.out 11
                      try go_wp2
                      have n0_ := Aside0.mk (blk_drew BK168.out)
                      have n1_ := Aside0.mk (below_drew1 HB.out)
                      clear BK168
                      clear HB
                      have BK168 := n0_
                      have HB := n1_
                      clear n0_ n1_
                      have p172 : 0 ≤ (x5_2 : Int) := of_decide_eq_true (by first | (with_reducible assumption) | assumption)
                      have q172 : x5_2 < (l0_11.length : Int) := of_decide_eq_true (by first | (with_reducible assumption) | assumption)
                      obtain ⟨ad172, A172_3, c172_3, A172_4, c172_4, A172_9, c172_9, A172_10, c172_10, A172_11, c172_11, e172, hx172_0, hx172_1, hx172_2, hx172_3, hx172_4, hx172_5, hx172_6, hx172_7, hx172_8, hx172_9, hx172_10, hx172_11, hl172_3, hi172_3, hl172_4, hi172_4, hl172_9, hi172_9, hl172_10, hi172_10, hl172_11, hi172_11⟩ := at_T80 HR0_11.out x5_2 p172 q172
                      have hw172_11 := hx172_11
                      have hw172_10 := hx172_10
                      have hw172_9 := hx172_9
                      have hw172_8 := hx172_8
                      have hw172_7 := hx172_7
                      have hw172_6 := hx172_6
                      have hw172_5 := hx172_5
                      have hw172_4 := hx172_4
                      have hw172_3 := hx172_3
                      have hw172_2 := hx172_2
                      have hw172_1 := hx172_1
                      have hw172_0 := hx172_0
                      cases e172
                      replace hx172_0 := (HB.out.cell (World.block_lt_of_cell? w _ hx172_0)).trans hx172_0
                      replace hx172_1 := (HB.out.cell (World.block_lt_of_cell? w _ hx172_1)).trans hx172_1
                      replace hx172_2 := (HB.out.cell (World.block_lt_of_cell? w _ hx172_2)).trans hx172_2
                      replace hx172_3 := (HB.out.cell (World.block_lt_of_cell? w _ hx172_3)).trans hx172_3
                      replace hx172_4 := (HB.out.cell (World.block_lt_of_cell? w _ hx172_4)).trans hx172_4
                      replace hx172_5 := (HB.out.cell (World.block_lt_of_cell? w _ hx172_5)).trans hx172_5
                      replace hx172_6 := (HB.out.cell (World.block_lt_of_cell? w _ hx172_6)).trans hx172_6
                      replace hx172_7 := (HB.out.cell (World.block_lt_of_cell? w _ hx172_7)).trans hx172_7
                      replace hx172_8 := (HB.out.cell (World.block_lt_of_cell? w _ hx172_8)).trans hx172_8
                      replace hx172_9 := (HB.out.cell (World.block_lt_of_cell? w _ hx172_9)).trans hx172_9
                      replace hx172_10 := (HB.out.cell (World.block_lt_of_cell? w _ hx172_10)).trans hx172_10
                      replace hx172_11 := (HB.out.cell (World.block_lt_of_cell? w _ hx172_11)).trans hx172_11
                      have HR172_3 := Aside0.mk hi172_3
                      have HC172_3 := Aside0.mk hl172_3
                      clear hi172_3 hl172_3
                      have HR172_4 := Aside0.mk hi172_4
                      have HC172_4 := Aside0.mk hl172_4
                      clear hi172_4 hl172_4
                      have HR172_9 := Aside0.mk hi172_9
                      have HC172_9 := Aside0.mk hl172_9
                      clear hi172_9 hl172_9
                      have HR172_10 := Aside0.mk hi172_10
                      have HC172_10 := Aside0.mk hl172_10
                      clear hi172_10 hl172_10
                      have HR172_11 := Aside0.mk hi172_11
                      have HC172_11 := Aside0.mk hl172_11
                      clear hi172_11 hl172_11
                      replace p172 := eq_true p172
                      replace q172 := eq_true q172
                      have p174 : 0 ≤ (x5_2 : Int) := of_decide_eq_true (by first | (with_reducible assumption) | assumption)
                      have q174 : x5_2 < (l0_11.length : Int) := of_decide_eq_true (by first | (with_reducible assumption) | assumption)
                      obtain ⟨ad174, A174_3, c174_3, A174_4, c174_4, A174_9, c174_9, A174_10, c174_10, A174_11, c174_11, e174, hx174_0, hx174_1, hx174_2, hx174_3, hx174_4, hx174_5, hx174_6, hx174_7, hx174_8, hx174_9, hx174_10, hx174_11, hl174_3, hi174_3, hl174_4, hi174_4, hl174_9, hi174_9, hl174_10, hi174_10, hl174_11, hi174_11⟩ := at_T80 HR0_11.out x5_2 p174 q174
                      have hw174_11 := hx174_11
                      have hw174_10 := hx174_10
                      have hw174_9 := hx174_9
                      have hw174_8 := hx174_8
                      have hw174_7 := hx174_7
                      have hw174_6 := hx174_6
                      have hw174_5 := hx174_5
                      have hw174_4 := hx174_4
                      have hw174_3 := hx174_3
                      have hw174_2 := hx174_2
                      have hw174_1 := hx174_1
                      have hw174_0 := hx174_0
                      obtain rfl : ad172 = ad174 := (by injection e174)
                      replace hx174_0 := (HB.out.cell (World.block_lt_of_cell? w _ hx174_0)).trans hx174_0
                      replace hx174_1 := (HB.out.cell (World.block_lt_of_cell? w _ hx174_1)).trans hx174_1
                      replace hx174_2 := (HB.out.cell (World.block_lt_of_cell? w _ hx174_2)).trans hx174_2
                      replace hx174_3 := (HB.out.cell (World.block_lt_of_cell? w _ hx174_3)).trans hx174_3
                      replace hx174_4 := (HB.out.cell (World.block_lt_of_cell? w _ hx174_4)).trans hx174_4
                      replace hx174_5 := (HB.out.cell (World.block_lt_of_cell? w _ hx174_5)).trans hx174_5
                      replace hx174_6 := (HB.out.cell (World.block_lt_of_cell? w _ hx174_6)).trans hx174_6
                      replace hx174_7 := (HB.out.cell (World.block_lt_of_cell? w _ hx174_7)).trans hx174_7
                      replace hx174_8 := (HB.out.cell (World.block_lt_of_cell? w _ hx174_8)).trans hx174_8
                      replace hx174_9 := (HB.out.cell (World.block_lt_of_cell? w _ hx174_9)).trans hx174_9
                      replace hx174_10 := (HB.out.cell (World.block_lt_of_cell? w _ hx174_10)).trans hx174_10
                      replace hx174_11 := (HB.out.cell (World.block_lt_of_cell? w _ hx174_11)).trans hx174_11
                      have HR174_3 := Aside0.mk hi174_3
                      have HC174_3 := Aside0.mk hl174_3
                      clear hi174_3 hl174_3
                      have HR174_4 := Aside0.mk hi174_4
                      have HC174_4 := Aside0.mk hl174_4
                      clear hi174_4 hl174_4
                      have HR174_9 := Aside0.mk hi174_9
                      have HC174_9 := Aside0.mk hl174_9
                      clear hi174_9 hl174_9
                      have HR174_10 := Aside0.mk hi174_10
                      have HC174_10 := Aside0.mk hl174_10
                      clear hi174_10 hl174_10
                      have HR174_11 := Aside0.mk hi174_11
                      have HC174_11 := Aside0.mk hl174_11
                      clear hi174_11 hl174_11
                      replace p174 := eq_true p174
                      replace q174 := eq_true q174
                      refine start_ (n := 21) (S := fun w' => w'.cell? ⟨gb168, 0, none⟩ = some (.int .i64 a0_0) ∧ w'.cell? ⟨gb168, 1, none⟩ = some (.string a0_1) ∧ w'.cell? ⟨gb168, 2, none⟩ = some (.int .i64 a0_2) ∧ w'.cell? ⟨gb168, 3, none⟩ = some (.slice A0_3 l0_3.length c0_3) ∧ w'.cell? ⟨gb168, 4, none⟩ = some (.slice A0_4 l0_4.length c0_4) ∧ w'.cell? ⟨gb168, 5, none⟩ = some (.int .i64 a0_5) ∧ w'.cell? ⟨gb168, 6, none⟩ = some (.int .i64 a0_6) ∧ w'.cell? ⟨gb168, 7, none⟩ = some (.string a0_7) ∧ w'.cell? ⟨gb168, 8, none⟩ = some (.int .i64 a0_8) ∧ w'.cell? ⟨gb168, 9, none⟩ = some (.slice A0_9 l0_9.length c0_9) ∧ w'.cell? ⟨gb168, 10, none⟩ = some (.slice A0_10 l0_10.length c0_10) ∧ w'.cell? ⟨gb168, 11, none⟩ = some (.slice (some ad172) l0_11.length c0_11) ∧ w'.cell? (ad172.add ((x5_2).toNat * 12)) = some (.int .i64 ((rd_T80 l0_11 x5_2).f0.f0)) ∧ w'.cell? ⟨(ad172.add ((x5_2).toNat * 12)).block, (ad172.add ((x5_2).toNat * 12)).off + 1, none⟩ = some (.string ((rd_T80 l0_11 x5_2).f0.f1)) ∧ w'.cell? ⟨(ad172.add ((x5_2).toNat * 12)).block, (ad172.add ((x5_2).toNat * 12)).off + 2, none⟩ = some (.int .i64 ((rd_T80 l0_11 x5_2).f0.f2)) ∧ w'.cell? ⟨(ad172.add ((x5_2).toNat * 12)).block, (ad172.add ((x5_2).toNat * 12)).off + 3, none⟩ = some (.slice A172_3 ((rd_T80 l0_11 x5_2).f0.f3).length c172_3) ∧ w'.cell? ⟨(ad172.add ((x5_2).toNat * 12)).block, (ad172.add ((x5_2).toNat * 12)).off + 4, none⟩ = some (.slice A172_4 ((rd_T80 l0_11 x5_2).f0.f4).length c172_4) ∧ w'.cell? ⟨(ad172.add ((x5_2).toNat * 12)).block, (ad172.add ((x5_2).toNat * 12)).off + 5, none⟩ = some (.int .i64 ((rd_T80 l0_11 x5_2).f1)) ∧ w'.cell? ⟨(ad172.add ((x5_2).toNat * 12)).block, (ad172.add ((x5_2).toNat * 12)).off + 6, none⟩ = some (.int .i64 ((rd_T80 l0_11 x5_2).f2.f0)) ∧ w'.cell? ⟨(ad172.add ((x5_2).toNat * 12)).block, (ad172.add ((x5_2).toNat * 12)).off + 7, none⟩ = some (.string ((rd_T80 l0_11 x5_2).f2.f1)) ∧ w'.cell? ⟨(ad172.add ((x5_2).toNat * 12)).block, (ad172.add ((x5_2).toNat * 12)).off + 8, none⟩ = some (.int .i64 ((rd_T80 l0_11 x5_2).f2.f2)) ∧ w'.cell? ⟨(ad172.add ((x5_2).toNat * 12)).block, (ad172.add ((x5_2).toNat * 12)).off + 9, none⟩ = some (.slice A172_9 ((rd_T80 l0_11 x5_2).f2.f3).length c172_9) ∧ w'.cell? ⟨(ad172.add ((x5_2).toNat * 12)).block, (ad172.add ((x5_2).toNat * 12)).off + 10, none⟩ = some (.slice A172_10 ((rd_T80 l0_11 x5_2).f2.f4).length c172_10) ∧ w'.cell? ⟨(ad172.add ((x5_2).toNat * 12)).block, (ad172.add ((x5_2).toNat * 12)).off + 11, none⟩ = some (.slice A172_11 ((rd_T80 l0_11 x5_2).f3).length c172_11) ∧ w'.cell? (ad172.add ((x5_2).toNat * 12)) = some (.int .i64 ((rd_T80 l0_11 x5_2).f0.f0)) ∧ w'.cell? ⟨(ad172.add ((x5_2).toNat * 12)).block, (ad172.add ((x5_2).toNat * 12)).off + 1, none⟩ = some (.string ((rd_T80 l0_11 x5_2).f0.f1)) ∧ w'.cell? ⟨(ad172.add ((x5_2).toNat * 12)).block, (ad172.add ((x5_2).toNat * 12)).off + 2, none⟩ = some (.int .i64 ((rd_T80 l0_11 x5_2).f0.f2)) ∧ w'.cell? ⟨(ad172.add ((x5_2).toNat * 12)).block, (ad172.add ((x5_2).toNat * 12)).off + 3, none⟩ = some (.slice A174_3 ((rd_T80 l0_11 x5_2).f0.f3).length c174_3) ∧ w'.cell? ⟨(ad172.add ((x5_2).toNat * 12)).block, (ad172.add ((x5_2).toNat * 12)).off + 4, none⟩ = some (.slice A174_4 ((rd_T80 l0_11 x5_2).f0.f4).length c174_4) ∧ w'.cell? ⟨(ad172.add ((x5_2).toNat * 12)).block, (ad172.add ((x5_2).toNat * 12)).off + 5, none⟩ = some (.int .i64 ((rd_T80 l0_11 x5_2).f1)) ∧ w'.cell? ⟨(ad172.add ((x5_2).toNat * 12)).block, (ad172.add ((x5_2).toNat * 12)).off + 6, none⟩ = some (.int .i64 ((rd_T80 l0_11 x5_2).f2.f0)) ∧ w'.cell? ⟨(ad172.add ((x5_2).toNat * 12)).block, (ad172.add ((x5_2).toNat * 12)).off + 7, none⟩ = some (.string ((rd_T80 l0_11 x5_2).f2.f1)) ∧ w'.cell? ⟨(ad172.add ((x5_2).toNat * 12)).block, (ad172.add ((x5_2).toNat * 12)).off + 8, none⟩ = some (.int .i64 ((rd_T80 l0_11 x5_2).f2.f2)) ∧ w'.cell? ⟨(ad172.add ((x5_2).toNat * 12)).block, (ad172.add ((x5_2).toNat * 12)).off + 9, none⟩ = some (.slice A174_9 ((rd_T80 l0_11 x5_2).f2.f3).length c174_9) ∧ w'.cell? ⟨(ad172.add ((x5_2).toNat * 12)).block, (ad172.add ((x5_2).toNat * 12)).off + 10, none⟩ = some (.slice A174_10 ((rd_T80 l0_11 x5_2).f2.f4).length c174_10) ∧ w'.cell? ⟨(ad172.add ((x5_2).toNat * 12)).block, (ad172.add ((x5_2).toNat * 12)).off + 11, none⟩ = some (.slice A174_11 ((rd_T80 l0_11 x5_2).f3).length c174_11)) (ds := []) #[false, false, false, false, false, false, false, false, false, false, false, false, false, false, false, false, false, false, false, false, false] (by kernel_rfl) rfl rfl ⟨(blk_cell BK168.out 0).trans rfl, (blk_cell BK168.out 1).trans rfl, (blk_cell BK168.out 2).trans rfl, (blk_cell BK168.out 3).trans rfl, (blk_cell BK168.out 4).trans rfl, (blk_cell BK168.out 5).trans rfl, (blk_cell BK168.out 6).trans rfl, (blk_cell BK168.out 7).trans rfl, (blk_cell BK168.out 8).trans rfl, (blk_cell BK168.out 9).trans rfl, (blk_cell BK168.out 10).trans rfl, (blk_cell BK168.out 11).trans rfl, ((HB.out.cell (World.block_lt_of_cell? w _ hw172_0)).trans hw172_0), ((HB.out.cell (World.block_lt_of_cell? w _ hw172_1)).trans hw172_1), ((HB.out.cell (World.block_lt_of_cell? w _ hw172_2)).trans hw172_2), ((HB.out.cell (World.block_lt_of_cell? w _ hw172_3)).trans hw172_3), ((HB.out.cell (World.block_lt_of_cell? w _ hw172_4)).trans hw172_4), ((HB.out.cell (World.block_lt_of_cell? w _ hw172_5)).trans hw172_5), ((HB.out.cell (World.block_lt_of_cell? w _ hw172_6)).trans hw172_6), ((HB.out.cell (World.block_lt_of_cell? w _ hw172_7)).trans hw172_7), ((HB.out.cell (World.block_lt_of_cell? w _ hw172_8)).trans hw172_8), ((HB.out.cell (World.block_lt_of_cell? w _ hw172_9)).trans hw172_9), ((HB.out.cell (World.block_lt_of_cell? w _ hw172_10)).trans hw172_10), ((HB.out.cell (World.block_lt_of_cell? w _ hw172_11)).trans hw172_11), ((HB.out.cell (World.block_lt_of_cell? w _ hw174_0)).trans hw174_0), ((HB.out.cell (World.block_lt_of_cell? w _ hw174_1)).trans hw174_1), ((HB.out.cell (World.block_lt_of_cell? w _ hw174_2)).trans hw174_2), ((HB.out.cell (World.block_lt_of_cell? w _ hw174_3)).trans hw174_3), ((HB.out.cell (World.block_lt_of_cell? w _ hw174_4)).trans hw174_4), ((HB.out.cell (World.block_lt_of_cell? w _ hw174_5)).trans hw174_5), ((HB.out.cell (World.block_lt_of_cell? w _ hw174_6)).trans hw174_6), ((HB.out.cell (World.block_lt_of_cell? w _ hw174_7)).trans hw174_7), ((HB.out.cell (World.block_lt_of_cell? w _ hw174_8)).trans hw174_8), ((HB.out.cell (World.block_lt_of_cell? w _ hw174_9)).trans hw174_9), ((HB.out.cell (World.block_lt_of_cell? w _ hw174_10)).trans hw174_10), ((HB.out.cell (World.block_lt_of_cell? w _ hw174_11)).trans hw174_11)⟩ (fun hHeld => ?_); refine with_tabW spec_l4Hit.tab8 spec_l4Hit.bits8 (fun HT_ HW_ => ?_)
                      generalize wr.drew = w42 at BK168 HB HR172_10 HR172_11 HR172_3 HR172_4 HR172_9 HR174_10 HR174_11 HR174_3 HR174_4 HR174_9 hx172_0 hx172_1 hx172_10 hx172_11 hx172_2 hx172_3 hx172_4 hx172_5 hx172_6 hx172_7 hx172_8 hx172_9 hx174_0 hx174_1 hx174_10 hx174_11 hx174_2 hx174_3 hx174_4 hx174_5 hx174_6 hx174_7 hx174_8 hx174_9 hHeld ⊢
                      refine pure_ (i := 0) (N := some 54) (v := ?_) (a' := ?_) #[true, false, false, false, false, false, false, false, false, false, false, false, false, false, false, false, false, false, false, false, false] rfl rfl (any_of HT_.out (by kernel_rfl)) (fun _ _ _ h => h) (Or.inl ⟨by rfl, ?_⟩) ?_ ?_
                      rotate_left
                      · intro w'
                        go_simp
                        with_reducible rfl
                      rotate_left
                      · simp only [Act.put, List.setIfInBounds_toArray, List.set_cons_zero, List.set_cons_succ, i64_w, i32_w]
                        rfl
                      refine pure_ (i := 2) (N := some 56) (v := ?_) (a' := ?_) #[true, false, true, false, false, false, false, false, false, false, false, false, false, false, false, false, false, false, false, false, false] rfl rfl (any_of HT_.out (by kernel_rfl)) (fun _ _ _ h => h) (Or.inl ⟨by rfl, ?_⟩) ?_ ?_
                      rotate_left
                      · intro w'
                        go_simp
                        with_reducible rfl
                      rotate_left
                      · simp only [Act.put, List.setIfInBounds_toArray, List.set_cons_zero, List.set_cons_succ, i64_w, i32_w]
                        rfl
                      refine pure_ (i := 6) (N := some 60) (v := ?_) (a' := ?_) #[true, false, true, false, false, false, true, false, false, false, false, false, false, false, false, false, false, false, false, false, false] rfl rfl (any_of HT_.out (by kernel_rfl)) (fun _ _ _ h => h) (Or.inl ⟨by rfl, ?_⟩) ?_ ?_
                      rotate_left
                      · intro w'
                        go_simp
                        with_reducible rfl
                      rotate_left
                      · simp only [Act.put, List.setIfInBounds_toArray, List.set_cons_zero, List.set_cons_succ, i64_w, i32_w]
                        rfl
                      refine take_ (i := 1) (N := some 55) (v := ?_) (a' := ?_) #[true, true, true, false, false, false, true, false, false, false, false, false, false, false, false, false, false, false, false, false, false] rfl rfl (take_ofW HT_.out HW_.out (by kernel_rfl)) (fun _ _ _ h => h) (Or.inl ⟨by rfl, ?_⟩) hHeld ?_ ?_
                      rotate_left
                      · rintro w' ⟨s0, s1, s2, s3, s4, s5, s6, s7, s8, s9, s10, s11, s12, s13, s14, s15, s16, s17, s18, s19, s20, s21, s22, s23, s24, s25, s26, s27, s28, s29, s30, s31, s32, s33, s34, s35⟩
                        go_simp
                        with_reducible rfl
                      rotate_left
                      · simp only [Act.put, List.setIfInBounds_toArray, List.set_cons_zero, List.set_cons_succ, i64_w, i32_w]
                        rfl
                      refine pure_ (i := 3) (N := some 57) (v := ?_) (a' := ?_) #[true, true, true, true, false, false, true, false, false, false, false, false, false, false, false, false, false, false, false, false, false] rfl rfl (any_of HT_.out (by kernel_rfl)) (fun _ _ _ h => h) (Or.inl ⟨by rfl, ?_⟩) ?_ ?_
                      rotate_left
                      · intro w'
                        go_simp
                        with_reducible rfl
                      rotate_left
                      · simp only [Act.put, List.setIfInBounds_toArray, List.set_cons_zero, List.set_cons_succ, i64_w, i32_w]
                        rfl
                      refine pure_ (i := 4) (N := some 58) (v := ?_) (a' := ?_) #[true, true, true, true, true, false, true, false, false, false, false, false, false, false, false, false, false, false, false, false, false] rfl rfl (any_of HT_.out (by kernel_rfl)) (fun _ _ _ h => h) (Or.inl ⟨by rfl, ?_⟩) ?_ ?_
                      rotate_left
                      · intro w'
                        go_simp
                        with_reducible rfl
                      rotate_left
                      · simp only [Act.put, List.setIfInBounds_toArray, List.set_cons_zero, List.set_cons_succ, i64_w, i32_w]
                        rfl
                      refine take_ (i := 5) (N := some 59) (v := ?_) (a' := ?_) #[true, true, true, true, true, true, true, false, false, false, false, false, false, false, false, false, false, false, false, false, false] rfl rfl (take_ofW HT_.out HW_.out (by kernel_rfl)) (fun _ _ _ h => h) (Or.inl ⟨by rfl, ?_⟩) hHeld ?_ ?_
                      rotate_left
                      · rintro w' ⟨s0, s1, s2, s3, s4, s5, s6, s7, s8, s9, s10, s11, s12, s13, s14, s15, s16, s17, s18, s19, s20, s21, s22, s23, s24, s25, s26, s27, s28, s29, s30, s31, s32, s33, s34, s35⟩
                        go_simp
                        with_reducible rfl
                      rotate_left
                      · simp only [Act.put, List.setIfInBounds_toArray, List.set_cons_zero, List.set_cons_succ, i64_w, i32_w]
                        rfl
                      refine take_ (i := 7) (N := some 61) (v := ?_) (a' := ?_) #[true, true, true, true, true, true, true, true, false, false, false, false, false, false, false, false, false, false, false, false, false] rfl rfl (take_ofW HT_.out HW_.out (by kernel_rfl)) (fun _ _ _ h => h) (Or.inl ⟨by rfl, ?_⟩) hHeld ?_ ?_
                      rotate_left
                      · rintro w' ⟨s0, s1, s2, s3, s4, s5, s6, s7, s8, s9, s10, s11, s12, s13, s14, s15, s16, s17, s18, s19, s20, s21, s22, s23, s24, s25, s26, s27, s28, s29, s30, s31, s32, s33, s34, s35⟩
                        go_simp
                        with_reducible rfl
                      rotate_left
                      · simp only [Act.put, List.setIfInBounds_toArray, List.set_cons_zero, List.set_cons_succ, i64_w, i32_w]
                        rfl
                      refine one_ (i := 8) (N := some 62) #[true, true, true, true, true, true, true, true, true, false, false, false, false, false, false, false, false, false, false, false, false] rfl rfl (one_of HT_.out (by kernel_rfl)) (by decide) (fun K hK => ?_)
                      refine goes_ Try.func63 (by kernel_rfl) rfl #[.agg #[.int .i64 ((rd_T80 l0_11 x5_2).f0.f0), .string ((rd_T80 l0_11 x5_2).f0.f1), .int .i64 ((rd_T80 l0_11 x5_2).f0.f2), .slice A172_3 ((rd_T80 l0_11 x5_2).f0.f3).length c172_3, .slice A172_4 ((rd_T80 l0_11 x5_2).f0.f4).length c172_4], .agg #[.int .i64 a0_0, .string a0_1, .int .i64 a0_2, .slice A0_3 l0_3.length c0_3, .slice A0_4 l0_4.length c0_4]] (by rfl) rfl rfl (by (try simp only [List.map_toArray, List.map_cons, List.map_nil]); first | done | rfl | (simp only [List.length_drop, List.length_take]; rfl)) ?_
                      with_reducible refine (spec_FormSame.calls ((rd_T80 l0_11 x5_2).f0.f0) ((rd_T80 l0_11 x5_2).f0.f1) ((rd_T80 l0_11 x5_2).f0.f2) _ _ ((rd_T80 l0_11 x5_2).f0.f3) _ _ ((rd_T80 l0_11 x5_2).f0.f4) a0_0 a0_1 a0_2 _ _ l0_3 _ _ l0_4 true _ ?side1 ?side2 ?side3 ?side4 ?side5 ?side6 ?side7 ?side8 A33.out).mono ?_
                      (case side1 => repeat (first | exact (Kd.C_below HR172_3.out HB.out) | (with_reducible refine Kd.C_alloc ?_ _) | (with_reducible refine Kd.C_drewN ?_ _) | (with_reducible refine Kd.C_drew ?_)))
                      (case side2 => exact HC172_3.out)
                      (case side3 => repeat (first | exact (Kd.C_below HR172_4.out HB.out) | (with_reducible refine Kd.C_alloc ?_ _) | (with_reducible refine Kd.C_drewN ?_ _) | (with_reducible refine Kd.C_drew ?_)))
                      (case side4 => exact HC172_4.out)
                      (case side5 => repeat (first | exact (Kd.C_below HR0_3.out HB.out) | (with_reducible refine Kd.C_alloc ?_ _) | (with_reducible refine Kd.C_drewN ?_ _) | (with_reducible refine Kd.C_drew ?_)))
                      (case side6 => exact HC0_3.out)
                      (case side7 => repeat (first | exact (Kd.C_below HR0_4.out HB.out) | (with_reducible refine Kd.C_alloc ?_ _) | (with_reducible refine Kd.C_drewN ?_ _) | (with_reducible refine Kd.C_drew ?_)))
                      (case side8 => exact HC0_4.out)
                      rintro e w43 ⟨rfl, hb⟩
                      refine ⟨_, rfl, ?_⟩
                      have n0_ := Aside0.mk (blk_below (g := gb168) (o := .cells #[.int .i64 a0_0, .string a0_1, .int .i64 a0_2, .slice A0_3 l0_3.length c0_3, .slice A0_4 l0_4.length c0_4, .int .i64 a0_5, .int .i64 a0_6, .string a0_7, .int .i64 a0_8, .slice A0_9 l0_9.length c0_9, .slice A0_10 l0_10.length c0_10, .slice (some ad172) l0_11.length c0_11] 80 (0, 0)) (by (with_reducible repeat (first | refine blk_drewN ?_ _ | refine blk_drew ?_ | refine blk_alloc ?_ _)); exact BK168.out) hb)
                      have n1_ := Aside0.mk (below_step (by repeat (first | (with_reducible first | exact HB.out | apply below_alloc | apply pw_below_drewN | apply below_drew1 | refine below_set ?_ GE168.out) | exact HB.out)) hb)
                      clear BK168
                      clear HB
                      have BK168 := n0_
                      have HB := n1_
                      clear n0_ n1_
                      (try clear hb)
                      (try clear hb2)
                      (try clear hk)
                      (try clear hi)
                      refine hK.out _ _ ⟨(blk_cell BK168.out 0).trans rfl, (blk_cell BK168.out 1).trans rfl, (blk_cell BK168.out 2).trans rfl, (blk_cell BK168.out 3).trans rfl, (blk_cell BK168.out 4).trans rfl, (blk_cell BK168.out 5).trans rfl, (blk_cell BK168.out 6).trans rfl, (blk_cell BK168.out 7).trans rfl, (blk_cell BK168.out 8).trans rfl, (blk_cell BK168.out 9).trans rfl, (blk_cell BK168.out 10).trans rfl, (blk_cell BK168.out 11).trans rfl, ((HB.out.cell (World.block_lt_of_cell? w _ hw172_0)).trans hw172_0), ((HB.out.cell (World.block_lt_of_cell? w _ hw172_1)).trans hw172_1), ((HB.out.cell (World.block_lt_of_cell? w _ hw172_2)).trans hw172_2), ((HB.out.cell (World.block_lt_of_cell? w _ hw172_3)).trans hw172_3), ((HB.out.cell (World.block_lt_of_cell? w _ hw172_4)).trans hw172_4), ((HB.out.cell (World.block_lt_of_cell? w _ hw172_5)).trans hw172_5), ((HB.out.cell (World.block_lt_of_cell? w _ hw172_6)).trans hw172_6), ((HB.out.cell (World.block_lt_of_cell? w _ hw172_7)).trans hw172_7), ((HB.out.cell (World.block_lt_of_cell? w _ hw172_8)).trans hw172_8), ((HB.out.cell (World.block_lt_of_cell? w _ hw172_9)).trans hw172_9), ((HB.out.cell (World.block_lt_of_cell? w _ hw172_10)).trans hw172_10), ((HB.out.cell (World.block_lt_of_cell? w _ hw172_11)).trans hw172_11), ((HB.out.cell (World.block_lt_of_cell? w _ hw174_0)).trans hw174_0), ((HB.out.cell (World.block_lt_of_cell? w _ hw174_1)).trans hw174_1), ((HB.out.cell (World.block_lt_of_cell? w _ hw174_2)).trans hw174_2), ((HB.out.cell (World.block_lt_of_cell? w _ hw174_3)).trans hw174_3), ((HB.out.cell (World.block_lt_of_cell? w _ hw174_4)).trans hw174_4), ((HB.out.cell (World.block_lt_of_cell? w _ hw174_5)).trans hw174_5), ((HB.out.cell (World.block_lt_of_cell? w _ hw174_6)).trans hw174_6), ((HB.out.cell (World.block_lt_of_cell? w _ hw174_7)).trans hw174_7), ((HB.out.cell (World.block_lt_of_cell? w _ hw174_8)).trans hw174_8), ((HB.out.cell (World.block_lt_of_cell? w _ hw174_9)).trans hw174_9), ((HB.out.cell (World.block_lt_of_cell? w _ hw174_10)).trans hw174_10), ((HB.out.cell (World.block_lt_of_cell? w _ hw174_11)).trans hw174_11)⟩ (fun hHeld => ?_)
                      clear hK K
                      refine norm_ (a' := ?_) ?_ ?_
                      rotate_left
                      · show Act.put _ (some 62) _ = _
                        simp only [Act.put, List.setIfInBounds_toArray, List.set_cons_zero, List.set_cons_succ, i64_w, i32_w]
                        rfl
                      refine pure_ (i := 9) (N := some 63) (v := ?_) (a' := ?_) #[true, true, true, true, true, true, true, true, true, true, false, false, false, false, false, false, false, false, false, false, false] rfl rfl (any_of HT_.out (by kernel_rfl)) (fun _ _ _ h => h) (Or.inl ⟨by rfl, ?_⟩) ?_ ?_
                      rotate_left
                      · intro w'
                        go_simp
                        with_reducible rfl
                      rotate_left
                      · simp only [Act.put, List.setIfInBounds_toArray, List.set_cons_zero, List.set_cons_succ, i64_w, i32_w]
                        rfl
                      refine pure_ (i := 10) (N := some 64) (v := ?_) (a' := ?_) #[true, true, true, true, true, true, true, true, true, true, true, false, false, false, false, false, false, false, false, false, false] rfl rfl (any_of HT_.out (by kernel_rfl)) (fun _ _ _ h => h) (Or.inl ⟨by rfl, ?_⟩) ?_ ?_
                      rotate_left
                      · intro w'
                        go_simp
                        with_reducible rfl
                      rotate_left
                      · simp only [Act.put, List.setIfInBounds_toArray, List.set_cons_zero, List.set_cons_succ, i64_w, i32_w]
                        rfl
                      refine pure_ (i := 11) (N := some 65) (v := ?_) (a' := ?_) #[true, true, true, true, true, true, true, true, true, true, true, true, false, false, false, false, false, false, false, false, false] rfl rfl (any_of HT_.out (by kernel_rfl)) (fun _ _ _ h => h) (Or.inl ⟨by rfl, ?_⟩) ?_ ?_
                      rotate_left
                      · intro w'
                        go_simp
                        with_reducible rfl
                      rotate_left
                      · simp only [Act.put, List.setIfInBounds_toArray, List.set_cons_zero, List.set_cons_succ, i64_w, i32_w]
                        rfl
                      refine pure_ (i := 13) (N := some 67) (v := ?_) (a' := ?_) #[true, true, true, true, true, true, true, true, true, true, true, true, false, true, false, false, false, false, false, false, false] rfl rfl (any_of HT_.out (by kernel_rfl)) (fun _ _ _ h => h) (Or.inl ⟨by rfl, ?_⟩) ?_ ?_
                      rotate_left
                      · intro w'
                        go_simp
                        with_reducible rfl
                      rotate_left
                      · simp only [Act.put, List.setIfInBounds_toArray, List.set_cons_zero, List.set_cons_succ, i64_w, i32_w]
                        rfl
                      refine pure_ (i := 16) (N := some 70) (v := ?_) (a' := ?_) #[true, true, true, true, true, true, true, true, true, true, true, true, false, true, false, false, true, false, false, false, false] rfl rfl (any_of HT_.out (by kernel_rfl)) (fun _ _ _ h => h) (Or.inl ⟨by rfl, ?_⟩) ?_ ?_
                      rotate_left
                      · intro w'
                        go_simp
                        with_reducible rfl
                      rotate_left
                      · simp only [Act.put, List.setIfInBounds_toArray, List.set_cons_zero, List.set_cons_succ, i64_w, i32_w]
                        rfl
                      refine pure_ (i := 17) (N := some 71) (v := ?_) (a' := ?_) #[true, true, true, true, true, true, true, true, true, true, true, true, false, true, false, false, true, true, false, false, false] rfl rfl (any_of HT_.out (by kernel_rfl)) (fun _ _ _ h => h) (Or.inl ⟨by rfl, ?_⟩) ?_ ?_
                      rotate_left
                      · intro w'
                        go_simp
                        with_reducible rfl
                      rotate_left
                      · simp only [Act.put, List.setIfInBounds_toArray, List.set_cons_zero, List.set_cons_succ, i64_w, i32_w]
                        rfl
                      refine take_ (i := 12) (N := some 66) (v := ?_) (a' := ?_) #[true, true, true, true, true, true, true, true, true, true, true, true, true, true, false, false, true, true, false, false, false] rfl rfl (take_ofW HT_.out HW_.out (by kernel_rfl)) (fun _ _ _ h => h) (Or.inl ⟨by rfl, ?_⟩) hHeld ?_ ?_
                      rotate_left
                      · rintro w' ⟨s0, s1, s2, s3, s4, s5, s6, s7, s8, s9, s10, s11, s12, s13, s14, s15, s16, s17, s18, s19, s20, s21, s22, s23, s24, s25, s26, s27, s28, s29, s30, s31, s32, s33, s34, s35⟩
                        go_simp
                        with_reducible rfl
                      rotate_left
                      · simp only [Act.put, List.setIfInBounds_toArray, List.set_cons_zero, List.set_cons_succ, i64_w, i32_w]
                        rfl
                      refine pure_ (i := 14) (N := some 68) (v := ?_) (a' := ?_) #[true, true, true, true, true, true, true, true, true, true, true, true, true, true, true, false, true, true, false, false, false] rfl rfl (any_of HT_.out (by kernel_rfl)) (fun _ _ _ h => h) (Or.inl ⟨by rfl, ?_⟩) ?_ ?_
                      rotate_left
                      · intro w'
                        go_simp
                        with_reducible rfl
                      rotate_left
                      · simp only [Act.put, List.setIfInBounds_toArray, List.set_cons_zero, List.set_cons_succ, i64_w, i32_w]
                        rfl
                      refine take_ (i := 15) (N := some 69) (v := ?_) (a' := ?_) #[true, true, true, true, true, true, true, true, true, true, true, true, true, true, true, true, true, true, false, false, false] rfl rfl (take_ofW HT_.out HW_.out (by kernel_rfl)) (fun _ _ _ h => h) (Or.inl ⟨by rfl, ?_⟩) hHeld ?_ ?_
                      rotate_left
                      · rintro w' ⟨s0, s1, s2, s3, s4, s5, s6, s7, s8, s9, s10, s11, s12, s13, s14, s15, s16, s17, s18, s19, s20, s21, s22, s23, s24, s25, s26, s27, s28, s29, s30, s31, s32, s33, s34, s35⟩
                        go_simp
                        with_reducible rfl
                      rotate_left
                      · simp only [Act.put, List.setIfInBounds_toArray, List.set_cons_zero, List.set_cons_succ, i64_w, i32_w]
                        rfl
                      refine one_ (i := 18) (N := some 72) #[true, true, true, true, true, true, true, true, true, true, true, true, true, true, true, true, true, true, true, false, false] rfl rfl (one_of HT_.out (by kernel_rfl)) (by decide) (fun K hK => ?_)
                      refine goes_ Try.func68 (by kernel_rfl) rfl #[.agg #[.int .i64 ((rd_T80 l0_11 x5_2).f0.f0), .string ((rd_T80 l0_11 x5_2).f0.f1), .int .i64 ((rd_T80 l0_11 x5_2).f0.f2), .slice A172_3 ((rd_T80 l0_11 x5_2).f0.f3).length c172_3, .slice A172_4 ((rd_T80 l0_11 x5_2).f0.f4).length c172_4, .int .i64 ((rd_T80 l0_11 x5_2).f1), .int .i64 ((rd_T80 l0_11 x5_2).f2.f0), .string ((rd_T80 l0_11 x5_2).f2.f1), .int .i64 ((rd_T80 l0_11 x5_2).f2.f2), .slice A172_9 ((rd_T80 l0_11 x5_2).f2.f3).length c172_9, .slice A172_10 ((rd_T80 l0_11 x5_2).f2.f4).length c172_10, .slice A172_11 ((rd_T80 l0_11 x5_2).f3).length c172_11], .int .i64 (wrap64 (a1 - 1))] (by rfl) rfl rfl (by (try simp only [List.map_toArray, List.map_cons, List.map_nil]); first | done | rfl | (simp only [List.length_drop, List.length_take]; rfl)) ?_
                      with_reducible refine (ih k2 (by have := HJ2.out; have := HK2.out; omega) ((rd_T80 l0_11 x5_2).f0.f0) ((rd_T80 l0_11 x5_2).f0.f1) ((rd_T80 l0_11 x5_2).f0.f2) _ _ ((rd_T80 l0_11 x5_2).f0.f3) _ _ ((rd_T80 l0_11 x5_2).f0.f4) ((rd_T80 l0_11 x5_2).f1) ((rd_T80 l0_11 x5_2).f2.f0) ((rd_T80 l0_11 x5_2).f2.f1) ((rd_T80 l0_11 x5_2).f2.f2) _ _ ((rd_T80 l0_11 x5_2).f2.f3) _ _ ((rd_T80 l0_11 x5_2).f2.f4) _ _ ((rd_T80 l0_11 x5_2).f3) (wrap64 (a1 - 1)) false _ ?side1 ?side2 ?side3 ?side4 ?side5 ?side6 ?side7 ?side8 ?side9 ?side10 A35.out).mono ?_
                      (case side1 => repeat (first | exact (Kd.C_below HR172_3.out HB.out) | (with_reducible refine Kd.C_alloc ?_ _) | (with_reducible refine Kd.C_drewN ?_ _) | (with_reducible refine Kd.C_drew ?_)))
                      (case side2 => exact HC172_3.out)
                      (case side3 => repeat (first | exact (Kd.C_below HR172_4.out HB.out) | (with_reducible refine Kd.C_alloc ?_ _) | (with_reducible refine Kd.C_drewN ?_ _) | (with_reducible refine Kd.C_drew ?_)))
                      (case side4 => exact HC172_4.out)
                      (case side5 => repeat (first | exact (Kd.C_below HR172_9.out HB.out) | (with_reducible refine Kd.C_alloc ?_ _) | (with_reducible refine Kd.C_drewN ?_ _) | (with_reducible refine Kd.C_drew ?_)))
                      (case side6 => exact HC172_9.out)
                      (case side7 => repeat (first | exact (Kd.C_below HR172_10.out HB.out) | (with_reducible refine Kd.C_alloc ?_ _) | (with_reducible refine Kd.C_drewN ?_ _) | (with_reducible refine Kd.C_drew ?_)))
                      (case side8 => exact HC172_10.out)
                      (case side9 => repeat (first | exact (Kd.C_below HR172_11.out HB.out) | (with_reducible refine Kd.C_alloc ?_ _) | (with_reducible refine Kd.C_drewN ?_ _) | (with_reducible refine Kd.C_drew ?_)))
                      (case side10 => exact HC172_11.out)
                      rintro e w44 ⟨rfl, hb⟩
                      refine ⟨_, rfl, ?_⟩
                      have n0_ := Aside0.mk (blk_below (g := gb168) (o := .cells #[.int .i64 a0_0, .string a0_1, .int .i64 a0_2, .slice A0_3 l0_3.length c0_3, .slice A0_4 l0_4.length c0_4, .int .i64 a0_5, .int .i64 a0_6, .string a0_7, .int .i64 a0_8, .slice A0_9 l0_9.length c0_9, .slice A0_10 l0_10.length c0_10, .slice (some ad172) l0_11.length c0_11] 80 (0, 0)) (by (with_reducible repeat (first | refine blk_drewN ?_ _ | refine blk_drew ?_ | refine blk_alloc ?_ _)); exact BK168.out) hb)
                      have n1_ := Aside0.mk (below_step (by repeat (first | (with_reducible first | exact HB.out | apply below_alloc | apply pw_below_drewN | apply below_drew1 | refine below_set ?_ GE168.out) | exact HB.out)) hb)
                      clear BK168
                      clear HB
                      have BK168 := n0_
                      have HB := n1_
                      clear n0_ n1_
                      (try clear hb)
                      (try clear hb2)
                      (try clear hk)
                      (try clear hi)
                      refine hK.out _ _ ⟨(blk_cell BK168.out 0).trans rfl, (blk_cell BK168.out 1).trans rfl, (blk_cell BK168.out 2).trans rfl, (blk_cell BK168.out 3).trans rfl, (blk_cell BK168.out 4).trans rfl, (blk_cell BK168.out 5).trans rfl, (blk_cell BK168.out 6).trans rfl, (blk_cell BK168.out 7).trans rfl, (blk_cell BK168.out 8).trans rfl, (blk_cell BK168.out 9).trans rfl, (blk_cell BK168.out 10).trans rfl, (blk_cell BK168.out 11).trans rfl, ((HB.out.cell (World.block_lt_of_cell? w _ hw172_0)).trans hw172_0), ((HB.out.cell (World.block_lt_of_cell? w _ hw172_1)).trans hw172_1), ((HB.out.cell (World.block_lt_of_cell? w _ hw172_2)).trans hw172_2), ((HB.out.cell (World.block_lt_of_cell? w _ hw172_3)).trans hw172_3), ((HB.out.cell (World.block_lt_of_cell? w _ hw172_4)).trans hw172_4), ((HB.out.cell (World.block_lt_of_cell? w _ hw172_5)).trans hw172_5), ((HB.out.cell (World.block_lt_of_cell? w _ hw172_6)).trans hw172_6), ((HB.out.cell (World.block_lt_of_cell? w _ hw172_7)).trans hw172_7), ((HB.out.cell (World.block_lt_of_cell? w _ hw172_8)).trans hw172_8), ((HB.out.cell (World.block_lt_of_cell? w _ hw172_9)).trans hw172_9), ((HB.out.cell (World.block_lt_of_cell? w _ hw172_10)).trans hw172_10), ((HB.out.cell (World.block_lt_of_cell? w _ hw172_11)).trans hw172_11), ((HB.out.cell (World.block_lt_of_cell? w _ hw174_0)).trans hw174_0), ((HB.out.cell (World.block_lt_of_cell? w _ hw174_1)).trans hw174_1), ((HB.out.cell (World.block_lt_of_cell? w _ hw174_2)).trans hw174_2), ((HB.out.cell (World.block_lt_of_cell? w _ hw174_3)).trans hw174_3), ((HB.out.cell (World.block_lt_of_cell? w _ hw174_4)).trans hw174_4), ((HB.out.cell (World.block_lt_of_cell? w _ hw174_5)).trans hw174_5), ((HB.out.cell (World.block_lt_of_cell? w _ hw174_6)).trans hw174_6), ((HB.out.cell (World.block_lt_of_cell? w _ hw174_7)).trans hw174_7), ((HB.out.cell (World.block_lt_of_cell? w _ hw174_8)).trans hw174_8), ((HB.out.cell (World.block_lt_of_cell? w _ hw174_9)).trans hw174_9), ((HB.out.cell (World.block_lt_of_cell? w _ hw174_10)).trans hw174_10), ((HB.out.cell (World.block_lt_of_cell? w _ hw174_11)).trans hw174_11)⟩ (fun hHeld => ?_)
                      clear hK K
                      refine norm_ (a' := ?_) ?_ ?_
                      rotate_left
                      · show Act.put _ (some 72) _ = _
                        simp only [Act.put, List.setIfInBounds_toArray, List.set_cons_zero, List.set_cons_succ, i64_w, i32_w]
                        rfl
                      refine pure_ (i := 19) (N := some 73) (v := ?_) (a' := ?_) #[true, true, true, true, true, true, true, true, true, true, true, true, true, true, true, true, true, true, true, true, false] rfl rfl (any_of HT_.out (by kernel_rfl)) (fun _ _ _ h => h) (Or.inl ⟨by rfl, ?_⟩) ?_ ?_
                      rotate_left
                      · intro w'
                        go_simp
                        with_reducible rfl
                      rotate_left
                      · simp only [Act.put, List.setIfInBounds_toArray, List.set_cons_zero, List.set_cons_succ, i64_w, i32_w]
                        rfl
                      refine pure_ (i := 20) (N := some 74) (v := ?_) (a' := ?_) #[true, true, true, true, true, true, true, true, true, true, true, true, true, true, true, true, true, true, true, true, true] rfl rfl (any_of HT_.out (by kernel_rfl)) (fun _ _ _ h => h) (Or.inl ⟨by rfl, ?_⟩) ?_ ?_
                      rotate_left
                      · intro w'
                        go_simp
                        with_reducible rfl
                      rotate_left
                      · simp only [Act.put, List.setIfInBounds_toArray, List.set_cons_zero, List.set_cons_succ, i64_w, i32_w]
                        rfl
                      refine done_ (done_of HT_.out (by kernel_rfl)) ?_
                      try go_wp2
                      go_ret
                      exact ⟨by first | rfl | (simp [errW_none, errW_some] <;> rfl) | (simp [*, errW_none, errW_some] <;> rfl), by repeat (first | (with_reducible first | exact HB.out | apply below_alloc | apply pw_below_drewN | apply below_drew1 | refine below_set ?_ GE168.out) | exact HB.out)⟩
                  · replace c34 := Bool.eq_false_iff.mpr c34
                    subst c34
                    have H1 : (some false) = some r := by rw [if_neg (show ¬ (false = true) by decide)] at H; exact H
                    clear H
                    have H := H1
                    clear H1
                    obtain rfl := Option.some.inj H
                    have hcz45_0 : wr.cell? ⟨gb168, 0, none⟩ = some (.int .i64 a0_0) := (blk_cell BK168.out 0).trans rfl
                    have hcz45_1 : wr.cell? ⟨gb168, 1, none⟩ = some (.string a0_1) := (blk_cell BK168.out 1).trans rfl
                    have hcz45_2 : wr.cell? ⟨gb168, 2, none⟩ = some (.int .i64 a0_2) := (blk_cell BK168.out 2).trans rfl
                    have hcz45_3 : wr.cell? ⟨gb168, 3, none⟩ = some (.slice A0_3 l0_3.length c0_3) := (blk_cell BK168.out 3).trans rfl
                    have hcz45_4 : wr.cell? ⟨gb168, 4, none⟩ = some (.slice A0_4 l0_4.length c0_4) := (blk_cell BK168.out 4).trans rfl
                    have hcz45_5 : wr.cell? ⟨gb168, 5, none⟩ = some (.int .i64 a0_5) := (blk_cell BK168.out 5).trans rfl
                    have hcz45_6 : wr.cell? ⟨gb168, 6, none⟩ = some (.int .i64 a0_6) := (blk_cell BK168.out 6).trans rfl
                    have hcz45_7 : wr.cell? ⟨gb168, 7, none⟩ = some (.string a0_7) := (blk_cell BK168.out 7).trans rfl
                    have hcz45_8 : wr.cell? ⟨gb168, 8, none⟩ = some (.int .i64 a0_8) := (blk_cell BK168.out 8).trans rfl
                    have hcz45_9 : wr.cell? ⟨gb168, 9, none⟩ = some (.slice A0_9 l0_9.length c0_9) := (blk_cell BK168.out 9).trans rfl
                    have hcz45_10 : wr.cell? ⟨gb168, 10, none⟩ = some (.slice A0_10 l0_10.length c0_10) := (blk_cell BK168.out 10).trans rfl
                    have hcz45_11 : wr.cell? ⟨gb168, 11, none⟩ = some (.slice A0_11 l0_11.length c0_11) := (blk_cell BK168.out 11).trans rfl
                    have hfz45_0 := blk_frozen BK168.out 0
                    have hfz45_1 := blk_frozen BK168.out 1
                    have hfz45_2 := blk_frozen BK168.out 2
                    have hfz45_3 := blk_frozen BK168.out 3
                    have hfz45_4 := blk_frozen BK168.out 4
                    have hfz45_5 := blk_frozen BK168.out 5
                    have hfz45_6 := blk_frozen BK168.out 6
                    have hfz45_7 := blk_frozen BK168.out 7
                    have hfz45_8 := blk_frozen BK168.out 8
                    have hfz45_9 := blk_frozen BK168.out 9
                    have hfz45_10 := blk_frozen BK168.out 10
                    have hfz45_11 := blk_frozen BK168.out 11
                    try go_wp2
                    have n0_ := Aside0.mk (blk_drew BK168.out)
                    have n1_ := Aside0.mk (below_drew1 HB.out)
                    clear BK168
                    clear HB
                    have BK168 := n0_
                    have HB := n1_
                    clear n0_ n1_
                    have p172 : 0 ≤ (x5_2 : Int) := of_decide_eq_true (by first | (with_reducible assumption) | assumption)
                    have q172 : x5_2 < (l0_11.length : Int) := of_decide_eq_true (by first | (with_reducible assumption) | assumption)
                    obtain ⟨ad172, A172_3, c172_3, A172_4, c172_4, A172_9, c172_9, A172_10, c172_10, A172_11, c172_11, e172, hx172_0, hx172_1, hx172_2, hx172_3, hx172_4, hx172_5, hx172_6, hx172_7, hx172_8, hx172_9, hx172_10, hx172_11, hl172_3, hi172_3, hl172_4, hi172_4, hl172_9, hi172_9, hl172_10, hi172_10, hl172_11, hi172_11⟩ := at_T80 HR0_11.out x5_2 p172 q172
                    have hw172_11 := hx172_11
                    have hw172_10 := hx172_10
                    have hw172_9 := hx172_9
                    have hw172_8 := hx172_8
                    have hw172_7 := hx172_7
                    have hw172_6 := hx172_6
                    have hw172_5 := hx172_5
                    have hw172_4 := hx172_4
                    have hw172_3 := hx172_3
                    have hw172_2 := hx172_2
                    have hw172_1 := hx172_1
                    have hw172_0 := hx172_0
                    cases e172
                    replace hx172_0 := (HB.out.cell (World.block_lt_of_cell? w _ hx172_0)).trans hx172_0
                    replace hx172_1 := (HB.out.cell (World.block_lt_of_cell? w _ hx172_1)).trans hx172_1
                    replace hx172_2 := (HB.out.cell (World.block_lt_of_cell? w _ hx172_2)).trans hx172_2
                    replace hx172_3 := (HB.out.cell (World.block_lt_of_cell? w _ hx172_3)).trans hx172_3
                    replace hx172_4 := (HB.out.cell (World.block_lt_of_cell? w _ hx172_4)).trans hx172_4
                    replace hx172_5 := (HB.out.cell (World.block_lt_of_cell? w _ hx172_5)).trans hx172_5
                    replace hx172_6 := (HB.out.cell (World.block_lt_of_cell? w _ hx172_6)).trans hx172_6
                    replace hx172_7 := (HB.out.cell (World.block_lt_of_cell? w _ hx172_7)).trans hx172_7
                    replace hx172_8 := (HB.out.cell (World.block_lt_of_cell? w _ hx172_8)).trans hx172_8
                    replace hx172_9 := (HB.out.cell (World.block_lt_of_cell? w _ hx172_9)).trans hx172_9
                    replace hx172_10 := (HB.out.cell (World.block_lt_of_cell? w _ hx172_10)).trans hx172_10
                    replace hx172_11 := (HB.out.cell (World.block_lt_of_cell? w _ hx172_11)).trans hx172_11
                    have HR172_3 := Aside0.mk hi172_3
                    have HC172_3 := Aside0.mk hl172_3
                    clear hi172_3 hl172_3
                    have HR172_4 := Aside0.mk hi172_4
                    have HC172_4 := Aside0.mk hl172_4
                    clear hi172_4 hl172_4
                    have HR172_9 := Aside0.mk hi172_9
                    have HC172_9 := Aside0.mk hl172_9
                    clear hi172_9 hl172_9
                    have HR172_10 := Aside0.mk hi172_10
                    have HC172_10 := Aside0.mk hl172_10
                    clear hi172_10 hl172_10
                    have HR172_11 := Aside0.mk hi172_11
                    have HC172_11 := Aside0.mk hl172_11
                    clear hi172_11 hl172_11
                    replace p172 := eq_true p172
                    replace q172 := eq_true q172
                    refine start_ (n := 21) (S := fun w' => w'.cell? ⟨gb168, 0, none⟩ = some (.int .i64 a0_0) ∧ w'.cell? ⟨gb168, 1, none⟩ = some (.string a0_1) ∧ w'.cell? ⟨gb168, 2, none⟩ = some (.int .i64 a0_2) ∧ w'.cell? ⟨gb168, 3, none⟩ = some (.slice A0_3 l0_3.length c0_3) ∧ w'.cell? ⟨gb168, 4, none⟩ = some (.slice A0_4 l0_4.length c0_4) ∧ w'.cell? ⟨gb168, 5, none⟩ = some (.int .i64 a0_5) ∧ w'.cell? ⟨gb168, 6, none⟩ = some (.int .i64 a0_6) ∧ w'.cell? ⟨gb168, 7, none⟩ = some (.string a0_7) ∧ w'.cell? ⟨gb168, 8, none⟩ = some (.int .i64 a0_8) ∧ w'.cell? ⟨gb168, 9, none⟩ = some (.slice A0_9 l0_9.length c0_9) ∧ w'.cell? ⟨gb168, 10, none⟩ = some (.slice A0_10 l0_10.length c0_10) ∧ w'.cell? ⟨gb168, 11, none⟩ = some (.slice (some ad172) l0_11.length c0_11) ∧ w'.cell? (ad172.add ((x5_2).toNat * 12)) = some (.int .i64 ((rd_T80 l0_11 x5_2).f0.f0)) ∧ w'.cell? ⟨(ad172.add ((x5_2).toNat * 12)).block, (ad172.add ((x5_2).toNat * 12)).off + 1, none⟩ = some (.string ((rd_T80 l0_11 x5_2).f0.f1)) ∧ w'.cell? ⟨(ad172.add ((x5_2).toNat * 12)).block, (ad172.add ((x5_2).toNat * 12)).off + 2, none⟩ = some (.int .i64 ((rd_T80 l0_11 x5_2).f0.f2)) ∧ w'.cell? ⟨(ad172.add ((x5_2).toNat * 12)).block, (ad172.add ((x5_2).toNat * 12)).off + 3, none⟩ = some (.slice A172_3 ((rd_T80 l0_11 x5_2).f0.f3).length c172_3) ∧ w'.cell? ⟨(ad172.add ((x5_2).toNat * 12)).block, (ad172.add ((x5_2).toNat * 12)).off + 4, none⟩ = some (.slice A172_4 ((rd_T80 l0_11 x5_2).f0.f4).length c172_4) ∧ w'.cell? ⟨(ad172.add ((x5_2).toNat * 12)).block, (ad172.add ((x5_2).toNat * 12)).off + 5, none⟩ = some (.int .i64 ((rd_T80 l0_11 x5_2).f1)) ∧ w'.cell? ⟨(ad172.add ((x5_2).toNat * 12)).block, (ad172.add ((x5_2).toNat * 12)).off + 6, none⟩ = some (.int .i64 ((rd_T80 l0_11 x5_2).f2.f0)) ∧ w'.cell? ⟨(ad172.add ((x5_2).toNat * 12)).block, (ad172.add ((x5_2).toNat * 12)).off + 7, none⟩ = some (.string ((rd_T80 l0_11 x5_2).f2.f1)) ∧ w'.cell? ⟨(ad172.add ((x5_2).toNat * 12)).block, (ad172.add ((x5_2).toNat * 12)).off + 8, none⟩ = some (.int .i64 ((rd_T80 l0_11 x5_2).f2.f2)) ∧ w'.cell? ⟨(ad172.add ((x5_2).toNat * 12)).block, (ad172.add ((x5_2).toNat * 12)).off + 9, none⟩ = some (.slice A172_9 ((rd_T80 l0_11 x5_2).f2.f3).length c172_9) ∧ w'.cell? ⟨(ad172.add ((x5_2).toNat * 12)).block, (ad172.add ((x5_2).toNat * 12)).off + 10, none⟩ = some (.slice A172_10 ((rd_T80 l0_11 x5_2).f2.f4).length c172_10) ∧ w'.cell? ⟨(ad172.add ((x5_2).toNat * 12)).block, (ad172.add ((x5_2).toNat * 12)).off + 11, none⟩ = some (.slice A172_11 ((rd_T80 l0_11 x5_2).f3).length c172_11)) (ds := []) #[false, false, false, false, false, false, false, false, false, false, false, false, false, false, false, false, false, false, false, false, false] (by kernel_rfl) rfl rfl ⟨(blk_cell BK168.out 0).trans rfl, (blk_cell BK168.out 1).trans rfl, (blk_cell BK168.out 2).trans rfl, (blk_cell BK168.out 3).trans rfl, (blk_cell BK168.out 4).trans rfl, (blk_cell BK168.out 5).trans rfl, (blk_cell BK168.out 6).trans rfl, (blk_cell BK168.out 7).trans rfl, (blk_cell BK168.out 8).trans rfl, (blk_cell BK168.out 9).trans rfl, (blk_cell BK168.out 10).trans rfl, (blk_cell BK168.out 11).trans rfl, ((HB.out.cell (World.block_lt_of_cell? w _ hw172_0)).trans hw172_0), ((HB.out.cell (World.block_lt_of_cell? w _ hw172_1)).trans hw172_1), ((HB.out.cell (World.block_lt_of_cell? w _ hw172_2)).trans hw172_2), ((HB.out.cell (World.block_lt_of_cell? w _ hw172_3)).trans hw172_3), ((HB.out.cell (World.block_lt_of_cell? w _ hw172_4)).trans hw172_4), ((HB.out.cell (World.block_lt_of_cell? w _ hw172_5)).trans hw172_5), ((HB.out.cell (World.block_lt_of_cell? w _ hw172_6)).trans hw172_6), ((HB.out.cell (World.block_lt_of_cell? w _ hw172_7)).trans hw172_7), ((HB.out.cell (World.block_lt_of_cell? w _ hw172_8)).trans hw172_8), ((HB.out.cell (World.block_lt_of_cell? w _ hw172_9)).trans hw172_9), ((HB.out.cell (World.block_lt_of_cell? w _ hw172_10)).trans hw172_10), ((HB.out.cell (World.block_lt_of_cell? w _ hw172_11)).trans hw172_11)⟩ (fun hHeld => ?_); refine with_tabW spec_l4Hit.tab8 spec_l4Hit.bits8 (fun HT_ HW_ => ?_)
                    generalize wr.drew = w46 at BK168 HB HR172_10 HR172_11 HR172_3 HR172_4 HR172_9 hx172_0 hx172_1 hx172_10 hx172_11 hx172_2 hx172_3 hx172_4 hx172_5 hx172_6 hx172_7 hx172_8 hx172_9 hHeld ⊢
                    refine pure_ (i := 0) (N := some 54) (v := ?_) (a' := ?_) #[true, false, false, false, false, false, false, false, false, false, false, false, false, false, false, false, false, false, false, false, false] rfl rfl (any_of HT_.out (by kernel_rfl)) (fun _ _ _ h => h) (Or.inl ⟨by rfl, ?_⟩) ?_ ?_
                    rotate_left
                    · intro w'
                      go_simp
                      with_reducible rfl
                    rotate_left
                    · simp only [Act.put, List.setIfInBounds_toArray, List.set_cons_zero, List.set_cons_succ, i64_w, i32_w]
                      rfl
                    refine pure_ (i := 2) (N := some 56) (v := ?_) (a' := ?_) #[true, false, true, false, false, false, false, false, false, false, false, false, false, false, false, false, false, false, false, false, false] rfl rfl (any_of HT_.out (by kernel_rfl)) (fun _ _ _ h => h) (Or.inl ⟨by rfl, ?_⟩) ?_ ?_
                    rotate_left
                    · intro w'
                      go_simp
                      with_reducible rfl
                    rotate_left
                    · simp only [Act.put, List.setIfInBounds_toArray, List.set_cons_zero, List.set_cons_succ, i64_w, i32_w]
                      rfl
                    refine pure_ (i := 6) (N := some 60) (v := ?_) (a' := ?_) #[true, false, true, false, false, false, true, false, false, false, false, false, false, false, false, false, false, false, false, false, false] rfl rfl (any_of HT_.out (by kernel_rfl)) (fun _ _ _ h => h) (Or.inl ⟨by rfl, ?_⟩) ?_ ?_
                    rotate_left
                    · intro w'
                      go_simp
                      with_reducible rfl
                    rotate_left
                    · simp only [Act.put, List.setIfInBounds_toArray, List.set_cons_zero, List.set_cons_succ, i64_w, i32_w]
                      rfl
                    refine take_ (i := 1) (N := some 55) (v := ?_) (a' := ?_) #[true, true, true, false, false, false, true, false, false, false, false, false, false, false, false, false, false, false, false, false, false] rfl rfl (take_ofW HT_.out HW_.out (by kernel_rfl)) (fun _ _ _ h => h) (Or.inl ⟨by rfl, ?_⟩) hHeld ?_ ?_
                    rotate_left
                    · rintro w' ⟨s0, s1, s2, s3, s4, s5, s6, s7, s8, s9, s10, s11, s12, s13, s14, s15, s16, s17, s18, s19, s20, s21, s22, s23⟩
                      go_simp
                      with_reducible rfl
                    rotate_left
                    · simp only [Act.put, List.setIfInBounds_toArray, List.set_cons_zero, List.set_cons_succ, i64_w, i32_w]
                      rfl
                    refine pure_ (i := 3) (N := some 57) (v := ?_) (a' := ?_) #[true, true, true, true, false, false, true, false, false, false, false, false, false, false, false, false, false, false, false, false, false] rfl rfl (any_of HT_.out (by kernel_rfl)) (fun _ _ _ h => h) (Or.inl ⟨by rfl, ?_⟩) ?_ ?_
                    rotate_left
                    · intro w'
                      go_simp
                      with_reducible rfl
                    rotate_left
                    · simp only [Act.put, List.setIfInBounds_toArray, List.set_cons_zero, List.set_cons_succ, i64_w, i32_w]
                      rfl
                    refine pure_ (i := 4) (N := some 58) (v := ?_) (a' := ?_) #[true, true, true, true, true, false, true, false, false, false, false, false, false, false, false, false, false, false, false, false, false] rfl rfl (any_of HT_.out (by kernel_rfl)) (fun _ _ _ h => h) (Or.inl ⟨by rfl, ?_⟩) ?_ ?_
                    rotate_left
                    · intro w'
                      go_simp
                      with_reducible rfl
                    rotate_left
                    · simp only [Act.put, List.setIfInBounds_toArray, List.set_cons_zero, List.set_cons_succ, i64_w, i32_w]
                      rfl
                    refine take_ (i := 5) (N := some 59) (v := ?_) (a' := ?_) #[true, true, true, true, true, true, true, false, false, false, false, false, false, false, false, false, false, false, false, false, false] rfl rfl (take_ofW HT_.out HW_.out (by kernel_rfl)) (fun _ _ _ h => h) (Or.inl ⟨by rfl, ?_⟩) hHeld ?_ ?_
                    rotate_left
                    · rintro w' ⟨s0, s1, s2, s3, s4, s5, s6, s7, s8, s9, s10, s11, s12, s13, s14, s15, s16, s17, s18, s19, s20, s21, s22, s23⟩
                      go_simp
                      with_reducible rfl
                    rotate_left
                    · simp only [Act.put, List.setIfInBounds_toArray, List.set_cons_zero, List.set_cons_succ, i64_w, i32_w]
                      rfl
                    refine take_ (i := 7) (N := some 61) (v := ?_) (a' := ?_) #[true, true, true, true, true, true, true, true, false, false, false, false, false, false, false, false, false, false, false, false, false] rfl rfl (take_ofW HT_.out HW_.out (by kernel_rfl)) (fun _ _ _ h => h) (Or.inl ⟨by rfl, ?_⟩) hHeld ?_ ?_
                    rotate_left
                    · rintro w' ⟨s0, s1, s2, s3, s4, s5, s6, s7, s8, s9, s10, s11, s12, s13, s14, s15, s16, s17, s18, s19, s20, s21, s22, s23⟩
                      go_simp
                      with_reducible rfl
                    rotate_left
                    · simp only [Act.put, List.setIfInBounds_toArray, List.set_cons_zero, List.set_cons_succ, i64_w, i32_w]
                      rfl
                    refine one_ (i := 8) (N := some 62) #[true, true, true, true, true, true, true, true, true, false, false, false, false, false, false, false, false, false, false, false, false] rfl rfl (one_of HT_.out (by kernel_rfl)) (by decide) (fun K hK => ?_)
                    refine goes_ Try.func63 (by kernel_rfl) rfl #[.agg #[.int .i64 ((rd_T80 l0_11 x5_2).f0.f0), .string ((rd_T80 l0_11 x5_2).f0.f1), .int .i64 ((rd_T80 l0_11 x5_2).f0.f2), .slice A172_3 ((rd_T80 l0_11 x5_2).f0.f3).length c172_3, .slice A172_4 ((rd_T80 l0_11 x5_2).f0.f4).length c172_4], .agg #[.int .i64 a0_0, .string a0_1, .int .i64 a0_2, .slice A0_3 l0_3.length c0_3, .slice A0_4 l0_4.length c0_4]] (by rfl) rfl rfl (by (try simp only [List.map_toArray, List.map_cons, List.map_nil]); first | done | rfl | (simp only [List.length_drop, List.length_take]; rfl)) ?_
                    with_reducible refine (spec_FormSame.calls ((rd_T80 l0_11 x5_2).f0.f0) ((rd_T80 l0_11 x5_2).f0.f1) ((rd_T80 l0_11 x5_2).f0.f2) _ _ ((rd_T80 l0_11 x5_2).f0.f3) _ _ ((rd_T80 l0_11 x5_2).f0.f4) a0_0 a0_1 a0_2 _ _ l0_3 _ _ l0_4 false _ ?side1 ?side2 ?side3 ?side4 ?side5 ?side6 ?side7 ?side8 A33.out).mono ?_
                    (case side1 => repeat (first | exact (Kd.C_below HR172_3.out HB.out) | (with_reducible refine Kd.C_alloc ?_ _) | (with_reducible refine Kd.C_drewN ?_ _) | (with_reducible refine Kd.C_drew ?_)))
                    (case side2 => exact HC172_3.out)
                    (case side3 => repeat (first | exact (Kd.C_below HR172_4.out HB.out) | (with_reducible refine Kd.C_alloc ?_ _) | (with_reducible refine Kd.C_drewN ?_ _) | (with_reducible refine Kd.C_drew ?_)))
                    (case side4 => exact HC172_4.out)
                    (case side5 => repeat (first | exact (Kd.C_below HR0_3.out HB.out) | (with_reducible refine Kd.C_alloc ?_ _) | (with_reducible refine Kd.C_drewN ?_ _) | (with_reducible refine Kd.C_drew ?_)))
                    (case side6 => exact HC0_3.out)
                    (case side7 => repeat (first | exact (Kd.C_below HR0_4.out HB.out) | (with_reducible refine Kd.C_alloc ?_ _) | (with_reducible refine Kd.C_drewN ?_ _) | (with_reducible refine Kd.C_drew ?_)))
                    (case side8 => exact HC0_4.out)
                    rintro e w47 ⟨rfl, hb⟩
                    refine ⟨_, rfl, ?_⟩
                    have n0_ := Aside0.mk (blk_below (g := gb168) (o := .cells #[.int .i64 a0_0, .string a0_1, .int .i64 a0_2, .slice A0_3 l0_3.length c0_3, .slice A0_4 l0_4.length c0_4, .int .i64 a0_5, .int .i64 a0_6, .string a0_7, .int .i64 a0_8, .slice A0_9 l0_9.length c0_9, .slice A0_10 l0_10.length c0_10, .slice (some ad172) l0_11.length c0_11] 80 (0, 0)) (by (with_reducible repeat (first | refine blk_drewN ?_ _ | refine blk_drew ?_ | refine blk_alloc ?_ _)); exact BK168.out) hb)
                    have n1_ := Aside0.mk (below_step (by repeat (first | (with_reducible first | exact HB.out | apply below_alloc | apply pw_below_drewN | apply below_drew1 | refine below_set ?_ GE168.out) | exact HB.out)) hb)
                    clear BK168
                    clear HB
                    have BK168 := n0_
                    have HB := n1_
                    clear n0_ n1_
                    (try clear hb)
                    (try clear hb2)
                    (try clear hk)
                    (try clear hi)
                    refine hK.out _ _ ⟨(blk_cell BK168.out 0).trans rfl, (blk_cell BK168.out 1).trans rfl, (blk_cell BK168.out 2).trans rfl, (blk_cell BK168.out 3).trans rfl, (blk_cell BK168.out 4).trans rfl, (blk_cell BK168.out 5).trans rfl, (blk_cell BK168.out 6).trans rfl, (blk_cell BK168.out 7).trans rfl, (blk_cell BK168.out 8).trans rfl, (blk_cell BK168.out 9).trans rfl, (blk_cell BK168.out 10).trans rfl, (blk_cell BK168.out 11).trans rfl, ((HB.out.cell (World.block_lt_of_cell? w _ hw172_0)).trans hw172_0), ((HB.out.cell (World.block_lt_of_cell? w _ hw172_1)).trans hw172_1), ((HB.out.cell (World.block_lt_of_cell? w _ hw172_2)).trans hw172_2), ((HB.out.cell (World.block_lt_of_cell? w _ hw172_3)).trans hw172_3), ((HB.out.cell (World.block_lt_of_cell? w _ hw172_4)).trans hw172_4), ((HB.out.cell (World.block_lt_of_cell? w _ hw172_5)).trans hw172_5), ((HB.out.cell (World.block_lt_of_cell? w _ hw172_6)).trans hw172_6), ((HB.out.cell (World.block_lt_of_cell? w _ hw172_7)).trans hw172_7), ((HB.out.cell (World.block_lt_of_cell? w _ hw172_8)).trans hw172_8), ((HB.out.cell (World.block_lt_of_cell? w _ hw172_9)).trans hw172_9), ((HB.out.cell (World.block_lt_of_cell? w _ hw172_10)).trans hw172_10), ((HB.out.cell (World.block_lt_of_cell? w _ hw172_11)).trans hw172_11)⟩ (fun hHeld => ?_)
                    clear hK K
                    refine norm_ (a' := ?_) ?_ ?_
                    rotate_left
                    · show Act.put _ (some 62) _ = _
                      simp only [Act.put, List.setIfInBounds_toArray, List.set_cons_zero, List.set_cons_succ, i64_w, i32_w]
                      rfl
                    refine pure_ (i := 9) (N := some 63) (v := ?_) (a' := ?_) #[true, true, true, true, true, true, true, true, true, true, false, false, false, false, false, false, false, false, false, false, false] rfl rfl (any_of HT_.out (by kernel_rfl)) (fun _ _ _ h => h) (Or.inl ⟨by rfl, ?_⟩) ?_ ?_
                    rotate_left
                    · intro w'
                      go_simp
                      with_reducible rfl
                    rotate_left
                    · simp only [Act.put, List.setIfInBounds_toArray, List.set_cons_zero, List.set_cons_succ, i64_w, i32_w]
                      rfl
                    refine pure_ (i := 10) (N := some 64) (v := ?_) (a' := ?_) #[true, true, true, true, true, true, true, true, true, true, true, false, false, false, false, false, false, false, false, false, false] rfl rfl (any_of HT_.out (by kernel_rfl)) (fun _ _ _ h => h) (Or.inl ⟨by rfl, ?_⟩) ?_ ?_
                    rotate_left
                    · intro w'
                      go_simp
                      with_reducible rfl
                    rotate_left
                    · simp only [Act.put, List.setIfInBounds_toArray, List.set_cons_zero, List.set_cons_succ, i64_w, i32_w]
                      rfl
                    refine pure_ (i := 11) (N := some 65) (v := undef) (a' := ?_) #[true, true, true, true, true, true, true, true, true, true, true, true, false, false, false, false, false, false, false, false, false] rfl rfl (any_of HT_.out (by kernel_rfl)) (fun _ _ _ h => h) (Or.inr ⟨by rfl, rfl⟩) ?_ ?_
                    rotate_left
                    · simp only [Act.put, List.setIfInBounds_toArray, List.set_cons_zero, List.set_cons_succ, i64_w, i32_w]
                      rfl
                    refine pure_ (i := 12) (N := some 66) (v := undef) (a' := ?_) #[true, true, true, true, true, true, true, true, true, true, true, true, true, false, false, false, false, false, false, false, false] rfl rfl (any_of HT_.out (by kernel_rfl)) (fun _ _ _ h => h) (Or.inr ⟨by rfl, rfl⟩) ?_ ?_
                    rotate_left
                    · simp only [Act.put, List.setIfInBounds_toArray, List.set_cons_zero, List.set_cons_succ, i64_w, i32_w]
                      rfl
                    refine pure_ (i := 13) (N := some 67) (v := undef) (a' := ?_) #[true, true, true, true, true, true, true, true, true, true, true, true, true, true, false, false, false, false, false, false, false] rfl rfl (any_of HT_.out (by kernel_rfl)) (fun _ _ _ h => h) (Or.inr ⟨by rfl, rfl⟩) ?_ ?_
                    rotate_left
                    · simp only [Act.put, List.setIfInBounds_toArray, List.set_cons_zero, List.set_cons_succ, i64_w, i32_w]
                      rfl
                    refine pure_ (i := 14) (N := some 68) (v := undef) (a' := ?_) #[true, true, true, true, true, true, true, true, true, true, true, true, true, true, true, false, false, false, false, false, false] rfl rfl (any_of HT_.out (by kernel_rfl)) (fun _ _ _ h => h) (Or.inr ⟨by rfl, rfl⟩) ?_ ?_
                    rotate_left
                    · simp only [Act.put, List.setIfInBounds_toArray, List.set_cons_zero, List.set_cons_succ, i64_w, i32_w]
                      rfl
                    refine pure_ (i := 15) (N := some 69) (v := undef) (a' := ?_) #[true, true, true, true, true, true, true, true, true, true, true, true, true, true, true, true, false, false, false, false, false] rfl rfl (any_of HT_.out (by kernel_rfl)) (fun _ _ _ h => h) (Or.inr ⟨by rfl, rfl⟩) ?_ ?_
                    rotate_left
                    · simp only [Act.put, List.setIfInBounds_toArray, List.set_cons_zero, List.set_cons_succ, i64_w, i32_w]
                      rfl
                    refine pure_ (i := 16) (N := some 70) (v := undef) (a' := ?_) #[true, true, true, true, true, true, true, true, true, true, true, true, true, true, true, true, true, false, false, false, false] rfl rfl (any_of HT_.out (by kernel_rfl)) (fun _ _ _ h => h) (Or.inr ⟨by rfl, rfl⟩) ?_ ?_
                    rotate_left
                    · simp only [Act.put, List.setIfInBounds_toArray, List.set_cons_zero, List.set_cons_succ, i64_w, i32_w]
                      rfl
                    refine pure_ (i := 17) (N := some 71) (v := undef) (a' := ?_) #[true, true, true, true, true, true, true, true, true, true, true, true, true, true, true, true, true, true, false, false, false] rfl rfl (any_of HT_.out (by kernel_rfl)) (fun _ _ _ h => h) (Or.inr ⟨by rfl, rfl⟩) ?_ ?_
                    rotate_left
                    · simp only [Act.put, List.setIfInBounds_toArray, List.set_cons_zero, List.set_cons_succ, i64_w, i32_w]
                      rfl
                    refine pure_ (i := 18) (N := some 72) (v := undef) (a' := ?_) #[true, true, true, true, true, true, true, true, true, true, true, true, true, true, true, true, true, true, true, false, false] rfl rfl (any_of HT_.out (by kernel_rfl)) (fun _ _ _ h => h) (Or.inr ⟨by rfl, rfl⟩) ?_ ?_
                    rotate_left
                    · simp only [Act.put, List.setIfInBounds_toArray, List.set_cons_zero, List.set_cons_succ, i64_w, i32_w]
                      rfl
                    refine pure_ (i := 19) (N := some 73) (v := undef) (a' := ?_) #[true, true, true, true, true, true, true, true, true, true, true, true, true, true, true, true, true, true, true, true, false] rfl rfl (any_of HT_.out (by kernel_rfl)) (fun _ _ _ h => h) (Or.inr ⟨by rfl, rfl⟩) ?_ ?_
                    rotate_left
                    · simp only [Act.put, List.setIfInBounds_toArray, List.set_cons_zero, List.set_cons_succ, i64_w, i32_w]
                      rfl
                    refine pure_ (i := 20) (N := some 74) (v := ?_) (a' := ?_) #[true, true, true, true, true, true, true, true, true, true, true, true, true, true, true, true, true, true, true, true, true] rfl rfl (any_of HT_.out (by kernel_rfl)) (fun _ _ _ h => h) (Or.inl ⟨by rfl, ?_⟩) ?_ ?_
                    rotate_left
                    · intro w'
                      go_simp
                      with_reducible rfl
                    rotate_left
                    · simp only [Act.put, List.setIfInBounds_toArray, List.set_cons_zero, List.set_cons_succ, i64_w, i32_w]
                      rfl
                    refine done_ (done_of HT_.out (by kernel_rfl)) ?_
                    try go_wp2
                    go_ret
                    exact ⟨by first | rfl | (simp [errW_none, errW_some] <;> rfl) | (simp [*, errW_none, errW_some] <;> rfl), by repeat (first | (with_reducible first | exact HB.out | apply below_alloc | apply pw_below_drewN | apply below_drew1 | refine below_set ?_ GE168.out) | exact HB.out)⟩
                · rw [if_neg c32] at H
                  exact absurd H (by simp)
              · rw [if_neg c31] at H
                have c31b0 : decide (x5_2 < (l0_11.length : Int)) = false := decide_eq_false c31
                clear c31
                replace H := Option.bind_eq_some_iff.mp H
                obtain ⟨t171, A480, H⟩ := H
                replace H : (if t171 = true then (some (decide ((l0_11.length : Int) ≤ 400))) else (some false)) = some r := H
                have A48 := Aside0.mk A480
                clear A480
                by_cases c49 : t171 = true
                · subst c49
                  have H1 : (some (decide ((l0_11.length : Int) ≤ 400))) = some r := by rw [if_pos rfl] at H; exact H
                  clear H
                  have H := H1
                  clear H1
                  obtain rfl := Option.some.inj H
                  have hcz50_0 : wr.cell? ⟨gb168, 0, none⟩ = some (.int .i64 a0_0) := (blk_cell BK168.out 0).trans rfl
                  have hcz50_1 : wr.cell? ⟨gb168, 1, none⟩ = some (.string a0_1) := (blk_cell BK168.out 1).trans rfl
                  have hcz50_2 : wr.cell? ⟨gb168, 2, none⟩ = some (.int .i64 a0_2) := (blk_cell BK168.out 2).trans rfl
                  have hcz50_3 : wr.cell? ⟨gb168, 3, none⟩ = some (.slice A0_3 l0_3.length c0_3) := (blk_cell BK168.out 3).trans rfl
                  have hcz50_4 : wr.cell? ⟨gb168, 4, none⟩ = some (.slice A0_4 l0_4.length c0_4) := (blk_cell BK168.out 4).trans rfl
                  have hcz50_5 : wr.cell? ⟨gb168, 5, none⟩ = some (.int .i64 a0_5) := (blk_cell BK168.out 5).trans rfl
                  have hcz50_6 : wr.cell? ⟨gb168, 6, none⟩ = some (.int .i64 a0_6) := (blk_cell BK168.out 6).trans rfl
                  have hcz50_7 : wr.cell? ⟨gb168, 7, none⟩ = some (.string a0_7) := (blk_cell BK168.out 7).trans rfl
                  have hcz50_8 : wr.cell? ⟨gb168, 8, none⟩ = some (.int .i64 a0_8) := (blk_cell BK168.out 8).trans rfl
                  have hcz50_9 : wr.cell? ⟨gb168, 9, none⟩ = some (.slice A0_9 l0_9.length c0_9) := (blk_cell BK168.out 9).trans rfl
                  have hcz50_10 : wr.cell? ⟨gb168, 10, none⟩ = some (.slice A0_10 l0_10.length c0_10) := (blk_cell BK168.out 10).trans rfl
                  have hcz50_11 : wr.cell? ⟨gb168, 11, none⟩ = some (.slice A0_11 l0_11.length c0_11) := (blk_cell BK168.out 11).trans rfl
                  have hfz50_0 := blk_frozen BK168.out 0
                  have hfz50_1 := blk_frozen BK168.out 1
                  have hfz50_2 := blk_frozen BK168.out 2
                  have hfz50_3 := blk_frozen BK168.out 3
                  have hfz50_4 := blk_frozen BK168.out 4
                  have hfz50_5 := blk_frozen BK168.out 5
                  have hfz50_6 := blk_frozen BK168.out 6
                  have hfz50_7 := blk_frozen BK168.out 7
                  have hfz50_8 := blk_frozen BK168.out 8
                  have hfz50_9 := blk_frozen BK168.out 9
                  have hfz50_10 := blk_frozen BK168.out 10
                  have hfz50_11 := blk_frozen BK168.out 11
                  go_wp2_with (first | ((with_reducible refine gate_callee (f := 63) rfl ?_); refine goesL_ (some 78) rfl rfl Try.func63 (by kernel_rfl) rfl #[.agg #[.int .i64 a0_6, .string a0_7, .int .i64 a0_8, .slice A0_9 l0_9.length c0_9, .slice A0_10 l0_10.length c0_10], .agg #[.int .i64 0, .string (⟨#[]⟩ : ByteArray), .int .i64 0, .slice none 0 0, .slice none 0 0]] rfl (by (try simp only [List.map_toArray, List.map_cons, List.map_nil]); first | done | rfl | (simp only [List.length_drop, List.length_take]; rfl)) ?_; (refine (spec_FormSame.calls a0_6 a0_7 a0_8 _ _ l0_9 _ _ l0_10 0 (⟨#[]⟩ : ByteArray) 0 _ _ ([] : List Int) _ _ ([] : List (S34)) true _ ?side1 ?side2 ?side3 ?side4 ?side5 ?side6 ?side7 ?side8 A48.out).mono ?_); (case side1 => repeat (first | exact (Kd.C_below HR0_9.out HB.out) | (with_reducible refine Kd.C_alloc ?_ _) | (with_reducible refine Kd.C_drewN ?_ _) | (with_reducible refine Kd.C_drew ?_))); (case side2 => exact HC0_9.out); (case side3 => repeat (first | exact (Kd.C_below HR0_10.out HB.out) | (with_reducible refine Kd.C_alloc ?_ _) | (with_reducible refine Kd.C_drewN ?_ _) | (with_reducible refine Kd.C_drew ?_))); (case side4 => exact HC0_10.out); (case side5 => exact Kd.C_nil _ _); (case side6 => exact Nat.le_refl _); (case side7 => exact Kd.C_nil _ _); (case side8 => exact Nat.le_refl _); rintro e w51 ⟨rfl, hb⟩; refine ⟨_, rfl, ?_⟩; have n0_ := Aside0.mk (blk_below (g := gb168) (o := .cells #[.int .i64 a0_0, .string a0_1, .int .i64 a0_2, .slice A0_3 l0_3.length c0_3, .slice A0_4 l0_4.length c0_4, .int .i64 a0_5, .int .i64 a0_6, .string a0_7, .int .i64 a0_8, .slice A0_9 l0_9.length c0_9, .slice A0_10 l0_10.length c0_10, .slice A0_11 l0_11.length c0_11] 80 (0, 0)) (by (with_reducible repeat (first | refine blk_drewN ?_ _ | refine blk_drew ?_ | refine blk_alloc ?_ _)); exact BK168.out) hb); have n1_ := Aside0.mk (below_step (by repeat (first | (with_reducible first | exact HB.out | apply below_alloc | apply pw_below_drewN | apply below_drew1 | refine below_set ?_ GE168.out) | exact HB.out)) hb); clear BK168; clear HB; have BK168 := n0_; have HB := n1_; clear n0_ n1_; (try clear hb); (try clear hb2); (try clear hk); (try clear hi); have hcz52_0 : w51.cell? ⟨gb168, 0, none⟩ = some (.int .i64 a0_0) := (blk_cell BK168.out 0).trans rfl; have hcz52_1 : w51.cell? ⟨gb168, 1, none⟩ = some (.string a0_1) := (blk_cell BK168.out 1).trans rfl; have hcz52_2 : w51.cell? ⟨gb168, 2, none⟩ = some (.int .i64 a0_2) := (blk_cell BK168.out 2).trans rfl; have hcz52_3 : w51.cell? ⟨gb168, 3, none⟩ = some (.slice A0_3 l0_3.length c0_3) := (blk_cell BK168.out 3).trans rfl; have hcz52_4 : w51.cell? ⟨gb168, 4, none⟩ = some (.slice A0_4 l0_4.length c0_4) := (blk_cell BK168.out 4).trans rfl; have hcz52_5 : w51.cell? ⟨gb168, 5, none⟩ = some (.int .i64 a0_5) := (blk_cell BK168.out 5).trans rfl; have hcz52_6 : w51.cell? ⟨gb168, 6, none⟩ = some (.int .i64 a0_6) := (blk_cell BK168.out 6).trans rfl; have hcz52_7 : w51.cell? ⟨gb168, 7, none⟩ = some (.string a0_7) := (blk_cell BK168.out 7).trans rfl; have hcz52_8 : w51.cell? ⟨gb168, 8, none⟩ = some (.int .i64 a0_8) := (blk_cell BK168.out 8).trans rfl; have hcz52_9 : w51.cell? ⟨gb168, 9, none⟩ = some (.slice A0_9 l0_9.length c0_9) := (blk_cell BK168.out 9).trans rfl; have hcz52_10 : w51.cell? ⟨gb168, 10, none⟩ = some (.slice A0_10 l0_10.length c0_10) := (blk_cell BK168.out 10).trans rfl; have hcz52_11 : w51.cell? ⟨gb168, 11, none⟩ = some (.slice A0_11 l0_11.length c0_11) := (blk_cell BK168.out 11).trans rfl; have hfz52_0 := blk_frozen BK168.out 0; have hfz52_1 := blk_frozen BK168.out 1; have hfz52_2 := blk_frozen BK168.out 2; have hfz52_3 := blk_frozen BK168.out 3; have hfz52_4 := blk_frozen BK168.out 4; have hfz52_5 := blk_frozen BK168.out 5; have hfz52_6 := blk_frozen BK168.out 6; have hfz52_7 := blk_frozen BK168.out 7; have hfz52_8 := blk_frozen BK168.out 8; have hfz52_9 := blk_frozen BK168.out 9; have hfz52_10 := blk_frozen BK168.out 10; have hfz52_11 := blk_frozen BK168.out 11))
                  go_ret
                  exact ⟨by first | rfl | (simp [errW_none, errW_some] <;> rfl) | (simp [*, errW_none, errW_some] <;> rfl), by repeat (first | (with_reducible first | exact HB.out | apply below_alloc | apply pw_below_drewN | apply below_drew1 | refine below_set ?_ GE168.out) | exact HB.out)⟩
                · replace c49 := Bool.eq_false_iff.mpr c49
                  subst c49
                  have H1 : (some false) = some r := by rw [if_neg (show ¬ (false = true) by decide)] at H; exact H
                  clear H
                  have H := H1
                  clear H1
                  obtain rfl := Option.some.inj H
                  have hcz53_0 : wr.cell? ⟨gb168, 0, none⟩ = some (.int .i64 a0_0) := (blk_cell BK168.out 0).trans rfl
                  have hcz53_1 : wr.cell? ⟨gb168, 1, none⟩ = some (.string a0_1) := (blk_cell BK168.out 1).trans rfl
                  have hcz53_2 : wr.cell? ⟨gb168, 2, none⟩ = some (.int .i64 a0_2) := (blk_cell BK168.out 2).trans rfl
                  have hcz53_3 : wr.cell? ⟨gb168, 3, none⟩ = some (.slice A0_3 l0_3.length c0_3) := (blk_cell BK168.out 3).trans rfl
                  have hcz53_4 : wr.cell? ⟨gb168, 4, none⟩ = some (.slice A0_4 l0_4.length c0_4) := (blk_cell BK168.out 4).trans rfl
                  have hcz53_5 : wr.cell? ⟨gb168, 5, none⟩ = some (.int .i64 a0_5) := (blk_cell BK168.out 5).trans rfl
                  have hcz53_6 : wr.cell? ⟨gb168, 6, none⟩ = some (.int .i64 a0_6) := (blk_cell BK168.out 6).trans rfl
                  have hcz53_7 : wr.cell? ⟨gb168, 7, none⟩ = some (.string a0_7) := (blk_cell BK168.out 7).trans rfl
                  have hcz53_8 : wr.cell? ⟨gb168, 8, none⟩ = some (.int .i64 a0_8) := (blk_cell BK168.out 8).trans rfl
                  have hcz53_9 : wr.cell? ⟨gb168, 9, none⟩ = some (.slice A0_9 l0_9.length c0_9) := (blk_cell BK168.out 9).trans rfl
                  have hcz53_10 : wr.cell? ⟨gb168, 10, none⟩ = some (.slice A0_10 l0_10.length c0_10) := (blk_cell BK168.out 10).trans rfl
                  have hcz53_11 : wr.cell? ⟨gb168, 11, none⟩ = some (.slice A0_11 l0_11.length c0_11) := (blk_cell BK168.out 11).trans rfl
                  have hfz53_0 := blk_frozen BK168.out 0
                  have hfz53_1 := blk_frozen BK168.out 1
                  have hfz53_2 := blk_frozen BK168.out 2
                  have hfz53_3 := blk_frozen BK168.out 3
                  have hfz53_4 := blk_frozen BK168.out 4
                  have hfz53_5 := blk_frozen BK168.out 5
                  have hfz53_6 := blk_frozen BK168.out 6
                  have hfz53_7 := blk_frozen BK168.out 7
                  have hfz53_8 := blk_frozen BK168.out 8
                  have hfz53_9 := blk_frozen BK168.out 9
                  have hfz53_10 := blk_frozen BK168.out 10
                  have hfz53_11 := blk_frozen BK168.out 11
                  go_wp2_with (first | ((with_reducible refine gate_callee (f := 63) rfl ?_); refine goesL_ (some 78) rfl rfl Try.func63 (by kernel_rfl) rfl #[.agg #[.int .i64 a0_6, .string a0_7, .int .i64 a0_8, .slice A0_9 l0_9.length c0_9, .slice A0_10 l0_10.length c0_10], .agg #[.int .i64 0, .string (⟨#[]⟩ : ByteArray), .int .i64 0, .slice none 0 0, .slice none 0 0]] rfl (by (try simp only [List.map_toArray, List.map_cons, List.map_nil]); first | done | rfl | (simp only [List.length_drop, List.length_take]; rfl)) ?_; (refine (spec_FormSame.calls a0_6 a0_7 a0_8 _ _ l0_9 _ _ l0_10 0 (⟨#[]⟩ : ByteArray) 0 _ _ ([] : List Int) _ _ ([] : List (S34)) false _ ?side1 ?side2 ?side3 ?side4 ?side5 ?side6 ?side7 ?side8 A48.out).mono ?_); (case side1 => repeat (first | exact (Kd.C_below HR0_9.out HB.out) | (with_reducible refine Kd.C_alloc ?_ _) | (with_reducible refine Kd.C_drewN ?_ _) | (with_reducible refine Kd.C_drew ?_))); (case side2 => exact HC0_9.out); (case side3 => repeat (first | exact (Kd.C_below HR0_10.out HB.out) | (with_reducible refine Kd.C_alloc ?_ _) | (with_reducible refine Kd.C_drewN ?_ _) | (with_reducible refine Kd.C_drew ?_))); (case side4 => exact HC0_10.out); (case side5 => exact Kd.C_nil _ _); (case side6 => exact Nat.le_refl _); (case side7 => exact Kd.C_nil _ _); (case side8 => exact Nat.le_refl _); rintro e w54 ⟨rfl, hb⟩; refine ⟨_, rfl, ?_⟩; have n0_ := Aside0.mk (blk_below (g := gb168) (o := .cells #[.int .i64 a0_0, .string a0_1, .int .i64 a0_2, .slice A0_3 l0_3.length c0_3, .slice A0_4 l0_4.length c0_4, .int .i64 a0_5, .int .i64 a0_6, .string a0_7, .int .i64 a0_8, .slice A0_9 l0_9.length c0_9, .slice A0_10 l0_10.length c0_10, .slice A0_11 l0_11.length c0_11] 80 (0, 0)) (by (with_reducible repeat (first | refine blk_drewN ?_ _ | refine blk_drew ?_ | refine blk_alloc ?_ _)); exact BK168.out) hb); have n1_ := Aside0.mk (below_step (by repeat (first | (with_reducible first | exact HB.out | apply below_alloc | apply pw_below_drewN | apply below_drew1 | refine below_set ?_ GE168.out) | exact HB.out)) hb); clear BK168; clear HB; have BK168 := n0_; have HB := n1_; clear n0_ n1_; (try clear hb); (try clear hb2); (try clear hk); (try clear hi)))
                  go_ret
                  exact ⟨by first | rfl | (simp [errW_none, errW_some] <;> rfl) | (simp [*, errW_none, errW_some] <;> rfl), by repeat (first | (with_reducible first | exact HB.out | apply below_alloc | apply pw_below_drewN | apply below_drew1 | refine below_set ?_ GE168.out) | exact HB.out)⟩

end Go.Proofs.Ytlklclebjeeaaaa.Q
end
