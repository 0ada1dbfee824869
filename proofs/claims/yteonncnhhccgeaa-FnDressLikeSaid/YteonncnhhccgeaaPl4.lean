/- Words for the laws' proofs (part 4): contracts of functions, and plain lemmas. -/
import Derived.ChangeSlices
import Derived.SizedLaws
import Derived.Test.YteonncnhhccgeaaPl1
import Derived.Test.YteonncnhhccgeaaPl2
import Derived.Test.YteonncnhhccgeaaPl3
section
namespace Go.Proofs.Yteonncnhhccgeaa.Q
open Go.RowKit Go.Proofs.YteonncnhhccgeaaW.PrintWords Go.Proofs.YteonncnhhccgeaaW.PrintLast Go.Proofs.YteonncnhhccgeaaW.PrintMore
attribute [local go_sem] max2_int min2_int max_two min_two max_three min_three max_four min_four   -- for this text's walks alone
set_option linter.unusedVariables false
set_option linter.unusedSimpArgs false

/-! ### spec_l1Some: function 112 -/
mutual
def spec_l1Some.j0 : Nat → Int → Bool → List Int → Int → Option (Int × ByteArray × Int × List Int × (List (S31)) × Int)
  | 0, _, _, _, _ => none
  | k + 1, x1, x13, x1000, x1001 => if x13 = true then ((spec_l15Rd_pick.f k x1000 x1001 4).bind fun bt117 => (if bt117.1 = 0 then ((spec_l15Rd_num.f k x1000 bt117.2 (([0, 1, 2, 7, 42, 999] : List Int))).bind fun bt122 => (some (2, (⟨#[]⟩ : ByteArray), bt122.1, ([] : List Int), ([] : List (S31)), bt122.2))) else ((spec_l15Rd_of.f k x1000 bt117.2 (([(⟨#[97]⟩ : ByteArray), (⟨#[98]⟩ : ByteArray), (⟨#[120]⟩ : ByteArray), (⟨#[121]⟩ : ByteArray), (⟨#[102]⟩ : ByteArray), (⟨#[105, 102]⟩ : ByteArray), (⟨#[108, 101, 116]⟩ : ByteArray), (⟨#[43]⟩ : ByteArray)] : List ByteArray))).bind fun bt127 => ((spec_l1Name.f bt127.1).bind fun bt129 => (some (bt129.1, bt129.2.1, bt129.2.2.1, bt129.2.2.2.1, bt129.2.2.2.2, bt127.2)))))) else ((spec_l15Rd_pick.f k x1000 x1001 4).bind fun bt139 => (spec_l1Some.l0 k x1 bt139.1 x1000 bt139.2 3 (⟨#[]⟩ : ByteArray) 0 ([] : List (S31))))
def spec_l1Some.l0 : Nat → Int → Int → List Int → Int → Int → ByteArray → Int → List (S31) → Option (Int × ByteArray × Int × List Int × (List (S31)) × Int)
  | 0, _, _, _, _, _, _, _, _ => none
  | k + 1, x1, x6, x1000, x1001, x139000, x139001, x139002, x139004 => if x6 > 0 then ((spec_l1Some.f k x1000 x1001 (wrap64 (x1 - 1))).bind fun bt141 => (if x139004.length < 1759218604441 then (spec_l1Some.l0 k x1 (wrap64 (x6 - 1)) x1000 bt141.2.2.2.2.2 x139000 x139001 x139002 (x139004 ++ [(⟨bt141.1, bt141.2.1, bt141.2.2.1, bt141.2.2.2.1, bt141.2.2.2.2.1⟩ : S31)])) else (none))) else (some (x139000, x139001, x139002, ([] : List Int), x139004, x1001))
def spec_l1Some.f : Nat → List Int → Int → Int → Option (Int × ByteArray × Int × List Int × (List (S31)) × Int)
  | 0, _, _, _ => none
  | k + 1, s0_0, s0_1, a1 => if a1 = 0 then (spec_l1Some.j0 k a1 true s0_0 s0_1) else ((spec_l15Rd_pick.f k s0_0 s0_1 3).bind fun bt115 => (spec_l1Some.j0 k a1 (bt115.1 == 0) s0_0 bt115.2))
end
theorem spec_l1Some.mono_l : ∀ k, (∀ y0 y1 y2, LeO (spec_l1Some.f k y0 y1 y2) (spec_l1Some.f (k + 1) y0 y1 y2)) ∧ (∀ y0 y1 y2 y3, LeO (spec_l1Some.j0 k y0 y1 y2 y3) (spec_l1Some.j0 (k + 1) y0 y1 y2 y3)) ∧ (∀ y0 y1 y2 y3 y4 y5 y6 y7, LeO (spec_l1Some.l0 k y0 y1 y2 y3 y4 y5 y6 y7) (spec_l1Some.l0 (k + 1) y0 y1 y2 y3 y4 y5 y6 y7))
  | 0 => ⟨fun _ _ _ r h => by simp [spec_l1Some.f] at h, fun _ _ _ _ r h => by simp [spec_l1Some.j0] at h, fun _ _ _ _ _ _ _ _ r h => by simp [spec_l1Some.l0] at h⟩
  | k + 1 => by
    obtain ⟨ih0, ih1, ih2⟩ := spec_l1Some.mono_l k
    refine ⟨?_, ?_, ?_⟩
    · intro y0 y1 y2
      unfold spec_l1Some.f
      repeat' first
      | (with_reducible exact ih0 _ _ _)
      | (with_reducible exact ih1 _ _ _ _)
      | (with_reducible exact ih2 _ _ _ _ _ _ _ _)
      | (with_reducible exact spec_l15Rd_num.mono _ _ _ _)
      | (with_reducible exact spec_l15Rd_of.mono _ _ _ _)
      | (with_reducible exact spec_l15Rd_pick.mono _ _ _ _)
      | (with_reducible exact LeO.refl _)
      | (with_reducible exact LeO.none _)
      | (with_reducible refine LeO.ite ?_ ?_)
      | (with_reducible refine LeO.bind ?_ (fun _ => ?_))
      | exact ih0 _ _ _
      | exact ih1 _ _ _ _
      | exact ih2 _ _ _ _ _ _ _ _
      | exact spec_l15Rd_num.mono _ _ _ _
      | exact spec_l15Rd_of.mono _ _ _ _
      | exact spec_l15Rd_pick.mono _ _ _ _
      | exact LeO.none _
      | refine LeO.ite ?_ ?_
      | refine LeO.bind ?_ (fun _ => ?_)
    · intro y0 y1 y2 y3
      unfold spec_l1Some.j0
      repeat' first
      | (with_reducible exact ih0 _ _ _)
      | (with_reducible exact ih1 _ _ _ _)
      | (with_reducible exact ih2 _ _ _ _ _ _ _ _)
      | (with_reducible exact spec_l15Rd_num.mono _ _ _ _)
      | (with_reducible exact spec_l15Rd_of.mono _ _ _ _)
      | (with_reducible exact spec_l15Rd_pick.mono _ _ _ _)
      | (with_reducible exact LeO.refl _)
      | (with_reducible exact LeO.none _)
      | (with_reducible refine LeO.ite ?_ ?_)
      | (with_reducible refine LeO.bind ?_ (fun _ => ?_))
      | exact ih0 _ _ _
      | exact ih1 _ _ _ _
      | exact ih2 _ _ _ _ _ _ _ _
      | exact spec_l15Rd_num.mono _ _ _ _
      | exact spec_l15Rd_of.mono _ _ _ _
      | exact spec_l15Rd_pick.mono _ _ _ _
      | exact LeO.none _
      | refine LeO.ite ?_ ?_
      | refine LeO.bind ?_ (fun _ => ?_)
    · intro y0 y1 y2 y3 y4 y5 y6 y7
      unfold spec_l1Some.l0
      repeat' first
      | (with_reducible exact ih0 _ _ _)
      | (with_reducible exact ih1 _ _ _ _)
      | (with_reducible exact ih2 _ _ _ _ _ _ _ _)
      | (with_reducible exact spec_l15Rd_num.mono _ _ _ _)
      | (with_reducible exact spec_l15Rd_of.mono _ _ _ _)
      | (with_reducible exact spec_l15Rd_pick.mono _ _ _ _)
      | (with_reducible exact LeO.refl _)
      | (with_reducible exact LeO.none _)
      | (with_reducible refine LeO.ite ?_ ?_)
      | (with_reducible refine LeO.bind ?_ (fun _ => ?_))
      | exact ih0 _ _ _
      | exact ih1 _ _ _ _
      | exact ih2 _ _ _ _ _ _ _ _
      | exact spec_l15Rd_num.mono _ _ _ _
      | exact spec_l15Rd_of.mono _ _ _ _
      | exact spec_l15Rd_pick.mono _ _ _ _
      | exact LeO.none _
      | refine LeO.ite ?_ ?_
      | refine LeO.bind ?_ (fun _ => ?_)
theorem spec_l1Some.mono : ∀ a0 a1 a2 k, LeO (spec_l1Some.f k a0 a1 a2) (spec_l1Some.f (k + 1) a0 a1 a2) := by
  intro a0 a1 a2 k
  obtain ⟨ih0, ih1, ih2⟩ := spec_l1Some.mono_l k
  exact ih0 a0 a1 a2
def spec_l1Some.T9 : Bool × List (List Nat × List Nat) := (true, [([], []), ([0], [0]), ([], []), ([], []), ([3], [3]), ([2, 4], [2, 4]), ([5], [5]), ([1, 6, 5], [1, 6]), ([0, 1, 2, 3, 4, 5, 6, 7], []), ([8, 7, 7, 0, 1, 2, 3, 4, 5, 6, 7], [7, 8])])
def spec_l1Some.B9 : List Nat := [0, 1, 0, 0, 8, 28, 60, 127, 255, 511]
theorem spec_l1Some.tab9 : rtab .any (opsOf Try.f112 9) = spec_l1Some.T9 := by kernel_rfl
theorem spec_l1Some.bits9 : waitsOk spec_l1Some.T9.2 spec_l1Some.B9 = true := by kernel_rfl
set_option maxHeartbeats 8000000 in
set_option maxRecDepth 100000 in
theorem spec_l1Some.calls (k : Nat) : ∀ (g : Nat) (s0_0 : List Int) (s0_1 : Int) (a1 : Int) (r1 : Int) (r2 : ByteArray) (r3 : Int) (r4 : List Int) (r5 : List (S31)) (r6 : Int) (w0 w : World) (hI : IsS104 w0 w g s0_0 s0_1) (hB : Below w0.heap.size w0 w) (h : spec_l1Some.f k s0_0 s0_1 a1 = some (r1, r2, r3, r4, r5, r6)),
    Calls Try.prog 112 #[.pointer (some ⟨g, 0, none⟩), .int .i64 a1] w fun e w' => ∃ v3_ v4_ : Value, e = .returned (.agg #[.int .i64 r1, .string r2, .int .i64 r3, v3_, v4_]) ∧ Kd.R (Kd.int .i64) 3 w' w.heap.size (fun _ => True) v3_ r4 ∧ Kd.R k31 31 w' w.heap.size (fun k_ => some k_ ≠ (v3_ : Value).ownBlock) v4_ r5 ∧ IsS104 w0 w' g s0_0 r6 ∧ Below w0.heap.size w0 w' ∧ KeepBut w w' g none := by
  induction k using Nat.strongRecOn with
  | _ k ih =>
  intro g s0_0 s0_1 a1 r1 r2 r3 r4 r5 r6 w0 w hI hB h
  cases k with
  | zero => exact absurd h (by simp [spec_l1Some.f])
  | succ k =>
  simp only [spec_l1Some.f] at h
  have hu31 := Try.underlying31
  have HI0 := Aside0.mk hI
  have HK := Aside0.mk (KeepBut.refl w g none)
  have HL := Aside0.mk hB.size
  clear hI
  have HW0 := Aside0.mk hB.size
  have HB := Aside0.mk hB
  clear hB
  have H : (if a1 = 0 then (spec_l1Some.j0 k a1 true s0_0 s0_1) else ((spec_l15Rd_pick.f k s0_0 s0_1 3).bind fun bt115 => (spec_l1Some.j0 k a1 (bt115.1 == 0) s0_0 bt115.2))) = some (r1, r2, r3, r4, r5, r6) := h
  clear h
  have HC3 := Aside0.mk H
  clear H
  go_enter Try.func112, Try.ntmps112
  go_upto_region 1 with (first | ((with_reducible refine gate_dst (N := 4) rfl ?_); refine box_event ?hg (N := 4) ?hd (cs := #[.int .i64 0, .string (⟨#[]⟩ : ByteArray), .int .i64 0, .slice none 0 0, .slice none 0 0]) (t := 31) ?hr ?_; (case hd => rfl); (case hg => rfl); (case hr => first | (go_simp; done) | (go_simp; rfl)); intro gb114 hg w4 hbox hb; have n0_ := Aside0.mk (IsS104.below (by repeat (first | (with_reducible first | exact HI0.out | apply IsS104.alloc | apply IsS104.drewN | apply IsS104.drew | apply IsS104.set_1) | exact HI0.out)) hb); have n1_ := Aside0.mk (KeepBut.trans (by repeat (first | (with_reducible first | exact HK.out | apply KeepBut.set_ | apply keep_drewN | apply keep_drew | apply keep_alloc) | exact HK.out)) (KeepBut.of_below hb g none) (.inl rfl)); have n2_ := Aside0.mk (below_step (by repeat (first | (with_reducible first | exact HB.out | apply below_alloc | apply pw_below_drewN | apply below_drew1 | refine below_set ?_ (IsS104.ge HI0.out)) | exact HB.out)) hb); have n3_ := Aside0.mk (hbox); have n4_ := Aside0.mk ((by rw [hg]; exact (keep_size (w := w) (g := g) (row := none) (by repeat (first | (with_reducible first | exact HK.out | apply KeepBut.set_ | apply keep_drewN | apply keep_drew | apply keep_alloc) | exact HK.out))) : w.heap.size ≤ gb114)); have n5_ := Aside0.mk ((Nat.le_trans HW0.out (by rw [hg]; exact (keep_size (w := w) (g := g) (row := none) (by repeat (first | (with_reducible first | exact HK.out | apply KeepBut.set_ | apply keep_drewN | apply keep_drew | apply keep_alloc) | exact HK.out))) : w.heap.size ≤ gb114) : w0.heap.size ≤ gb114)); have n6_ := Aside0.mk ((by rw [hg]; exact Nat.ne_of_lt (IsS104.lt (show IsS104 w0 _ g s0_0 s0_1 from by repeat (first | (with_reducible first | exact HI0.out | apply IsS104.alloc | apply IsS104.drewN | apply IsS104.drew | apply IsS104.set_1) | exact HI0.out))) : g ≠ gb114)); have n7_ := Aside0.mk ((by rw [hg]; exact Nat.ne_of_gt (IsS104.lt (show IsS104 w0 _ g s0_0 s0_1 from by repeat (first | (with_reducible first | exact HI0.out | apply IsS104.alloc | apply IsS104.drewN | apply IsS104.drew | apply IsS104.set_1) | exact HI0.out))) : gb114 ≠ g)); clear HI0; clear HK; clear HB; have HI0 := n0_; have HK := n1_; have HB := n2_; have BK114 := n3_; have GW114 := n4_; have GE114 := n5_; have NB0_114 := n6_; have NB114_0 := n7_; clear n0_ n1_ n2_ n3_ n4_ n5_ n6_ n7_; clear hb hbox hg))
  (try simp only [Act.put, List.setIfInBounds_toArray, List.set_cons_zero, List.set_cons_succ])
  go_cut [13] (fun v13 wc => ∃ (kq : Nat) (x13_2 : Bool) (x1001_2 : Int), v13 = .bool x13_2 ∧ Aside0 (spec_l1Some.j0 kq a1 x13_2 s0_0 x1001_2 = some (r1, r2, r3, r4, r5, r6)) ∧ Aside0 (kq ≤ k) ∧ Aside0 (wc.heap[gb114]? = some (.cells #[.int .i64 0, .string (⟨#[]⟩ : ByteArray), .int .i64 0, (.slice none 0 0), (.slice none 0 0)] 31 (0, 0))) ∧ Aside0 (IsS104 w0 wc g s0_0 x1001_2) ∧ Aside0 (KeepBut w wc g none) ∧ Aside0 (Below w0.heap.size w0 wc))
  case first =>
    have H := HC3.out
    clear HC3
    by_cases c5 : a1 = 0
    · rw [if_pos c5] at H
      have c5b0 : (a1 == 0) = true := beq_iff_eq.mpr c5
      have c5b1 : (a1 != 0) = false := bne_eq_false_iff_eq.mpr c5
      clear c5
      (first | rw [c5b0] | (simp only [i64_w, i32_w]; rw [c5b0]) | skip)
      have H' := Aside0.mk H
      clear H
      go_wp2
      go_meet
      case rel => exact ⟨_, (true), (s0_1), (by first | rfl | (simp; done) | (simp [*]; done)), H', ⟨by first | omega | exact Nat.le_refl _⟩, ⟨by (with_reducible repeat (first | refine blk_drewN ?_ _ | refine blk_drew ?_ | refine blk_alloc ?_ _)); exact BK114.out⟩, ⟨by repeat (first | (with_reducible first | exact HI0.out | apply IsS104.alloc | apply IsS104.drewN | apply IsS104.drew | apply IsS104.set_1 | refine IsS104.far ?_ NB0_114.out _) | exact HI0.out)⟩, ⟨by repeat (first | (with_reducible first | exact HK.out | apply KeepBut.set_ | apply keep_drewN | apply keep_drew | apply keep_alloc | refine keep_far ?_ GW114.out _) | exact HK.out)⟩, ⟨by repeat (first | (with_reducible first | exact HB.out | apply below_alloc | apply pw_below_drewN | apply below_drew1 | refine below_set ?_ (IsS104.ge HI0.out) | refine below_set ?_ GE114.out) | exact HB.out)⟩⟩
    · rw [if_neg c5] at H
      have c5b0 : (a1 == 0) = false := beq_eq_false_iff_ne.mpr c5
      have c5b1 : (a1 != 0) = true := bne_iff_ne.mpr c5
      (first | rw [c5b0] | (simp only [i64_w, i32_w]; rw [c5b0]) | skip)
      replace H := Option.bind_eq_some_iff.mp H
      obtain ⟨⟨t115, t116⟩, A60, H⟩ := H
      replace H : (spec_l1Some.j0 k a1 (t115 == 0) s0_0 t116) = some (r1, r2, r3, r4, r5, r6) := H
      have A6 := Aside0.mk A60
      clear A60
      have H' := Aside0.mk H
      clear H
      go_wp2_with (first | (go_at_call 79; (with_reducible refine (spec_l15Rd_pick.calls k g s0_0 s0_1 3 t115 t116 w0 _ ?side1 ?side2 A6.out).mono ?_); (case side1 => repeat (first | (with_reducible first | exact HI0.out | apply IsS104.alloc | apply IsS104.drewN | apply IsS104.drew | apply IsS104.set_1 | refine IsS104.far ?_ NB0_114.out _) | exact HI0.out)); (case side2 => repeat (first | (with_reducible first | exact HB.out | apply below_alloc | apply pw_below_drewN | apply below_drew1 | refine below_set ?_ (IsS104.ge HI0.out) | refine below_set ?_ GE114.out) | exact HB.out)); rintro e w7 ⟨rfl, hi, hb, hk⟩; have n0_ := Aside0.mk (KeepBut.blk hk (g' := gb114) (o := .cells #[.int .i64 0, .string (⟨#[]⟩ : ByteArray), .int .i64 0, .slice none 0 0, .slice none 0 0] 31 (0, 0)) (by (with_reducible repeat (first | refine blk_drewN ?_ _ | refine blk_drew ?_ | refine blk_alloc ?_ _)); exact BK114.out) NB114_0.out (by simp)); have n1_ := Aside0.mk (KeepBut.trans (by repeat (first | (with_reducible first | exact HK.out | apply KeepBut.set_ | apply keep_drewN | apply keep_drew | apply keep_alloc | refine keep_far ?_ GW114.out _) | exact HK.out)) hk (.inl rfl)); have n2_ := Aside0.mk (hb); have n3_ := Aside0.mk (hi); clear BK114; clear HK; clear HB; clear HI0; have BK114 := n0_; have HK := n1_; have HB := n2_; have HI0 := n3_; clear n0_ n1_ n2_ n3_; (try clear hb); (try clear hb2); (try clear hk); (try clear hi)))
      go_meet
      case rel => exact ⟨_, ((t115 == 0)), (t116), (by first | rfl | (simp; done) | (simp [*]; done)), H', ⟨by first | omega | exact Nat.le_refl _⟩, ⟨by (with_reducible repeat (first | refine blk_drewN ?_ _ | refine blk_drew ?_ | refine blk_alloc ?_ _)); exact BK114.out⟩, ⟨by repeat (first | (with_reducible first | exact HI0.out | apply IsS104.alloc | apply IsS104.drewN | apply IsS104.drew | apply IsS104.set_1 | refine IsS104.far ?_ NB0_114.out _) | exact HI0.out)⟩, ⟨by repeat (first | (with_reducible first | exact HK.out | apply KeepBut.set_ | apply keep_drewN | apply keep_drew | apply keep_alloc | refine keep_far ?_ GW114.out _) | exact HK.out)⟩, ⟨by repeat (first | (with_reducible first | exact HB.out | apply below_alloc | apply pw_below_drewN | apply below_drew1 | refine below_set ?_ (IsS104.ge HI0.out) | refine below_set ?_ GE114.out) | exact HB.out)⟩⟩
  case rest =>
    clear HC3
    try clear c1
    try clear p2
    try clear c5
    try clear c5b0
    try clear c5b1
    obtain ⟨kq, x13_2, x1001_2, rfl, HA, HJ2, BK114, HI0, HK, HB⟩ := hcut
    cases kq with
    | zero => exact absurd HA.out (by simp [spec_l1Some.j0])
    | succ kj2 =>
      have H := HA.out
      clear HA
      simp only [spec_l1Some.j0] at H
      by_cases c8 : x13_2 = true
      · subst c8
        have H1 : ((spec_l15Rd_pick.f kj2 s0_0 x1001_2 4).bind fun bt117 => (if bt117.1 = 0 then ((spec_l15Rd_num.f kj2 s0_0 bt117.2 (([0, 1, 2, 7, 42, 999] : List Int))).bind fun bt122 => (some (2, (⟨#[]⟩ : ByteArray), bt122.1, ([] : List Int), ([] : List (S31)), bt122.2))) else ((spec_l15Rd_of.f kj2 s0_0 bt117.2 (([(⟨#[97]⟩ : ByteArray), (⟨#[98]⟩ : ByteArray), (⟨#[120]⟩ : ByteArray), (⟨#[121]⟩ : ByteArray), (⟨#[102]⟩ : ByteArray), (⟨#[105, 102]⟩ : ByteArray), (⟨#[108, 101, 116]⟩ : ByteArray), (⟨#[43]⟩ : ByteArray)] : List ByteArray))).bind fun bt127 => ((spec_l1Name.f bt127.1).bind fun bt129 => (some (bt129.1, bt129.2.1, bt129.2.2.1, bt129.2.2.2.1, bt129.2.2.2.2, bt127.2)))))) = some (r1, r2, r3, r4, r5, r6) := by rw [if_pos rfl] at H; exact H
        clear H
        have H := H1
        clear H1
        replace H := Option.bind_eq_some_iff.mp H
        obtain ⟨⟨t117, t118⟩, A90, H⟩ := H
        replace H : (if t117 = 0 then ((spec_l15Rd_num.f kj2 s0_0 t118 (([0, 1, 2, 7, 42, 999] : List Int))).bind fun bt122 => (some (2, (⟨#[]⟩ : ByteArray), bt122.1, ([] : List Int), ([] : List (S31)), bt122.2))) else ((spec_l15Rd_of.f kj2 s0_0 t118 (([(⟨#[97]⟩ : ByteArray), (⟨#[98]⟩ : ByteArray), (⟨#[120]⟩ : ByteArray), (⟨#[121]⟩ : ByteArray), (⟨#[102]⟩ : ByteArray), (⟨#[105, 102]⟩ : ByteArray), (⟨#[108, 101, 116]⟩ : ByteArray), (⟨#[43]⟩ : ByteArray)] : List ByteArray))).bind fun bt127 => ((spec_l1Name.f bt127.1).bind fun bt129 => (some (bt129.1, bt129.2.1, bt129.2.2.1, bt129.2.2.2.1, bt129.2.2.2.2, bt127.2))))) = some (r1, r2, r3, r4, r5, r6) := H
        have A9 := Aside0.mk A90
        clear A90
        by_cases c10 : t117 = 0
        · rw [if_pos c10] at H
          have c10b0 : (t117 == 0) = true := beq_iff_eq.mpr c10
          have c10b1 : (t117 != 0) = false := bne_eq_false_iff_eq.mpr c10
          clear c10
          obtain ⟨y119, hy119⟩ : ∃ y_ : List Int, y_ = (([0, 1, 2, 7, 42, 999] : List Int)) := ⟨_, rfl⟩
          replace H : ((spec_l15Rd_num.f kj2 s0_0 t118 y119).bind fun bt122 => (some (2, (⟨#[]⟩ : ByteArray), bt122.1, ([] : List Int), ([] : List (S31)), bt122.2))) = some (r1, r2, r3, r4, r5, r6) := by first | (rw [hy119]; with_reducible exact H) | (have H2_ := (Option.bind_some _ _).symm.trans H; rw [hy119]; with_reducible exact H2_) | (have H2_ := (Option.bind_some _ _).symm.trans H; with_reducible exact H2_) | with_reducible exact H | (rw [hy119]; exact H) | exact H
          have Ny119 := Aside0.mk hy119
          clear hy119
          replace H := Option.bind_eq_some_iff.mp H
          obtain ⟨⟨t122, t123⟩, A110, H⟩ := H
          replace H : (some (2, (⟨#[]⟩ : ByteArray), t122, ([] : List Int), ([] : List (S31)), t123)) = some (r1, r2, r3, r4, r5, r6) := H
          have A11 := Aside0.mk A110
          clear A110
          simp only [Option.some.injEq, Prod.mk.injEq] at H
          obtain ⟨rfl, rfl, rfl, rfl, rfl, rfl⟩ := H
          go_wp2_with (first | ((with_reducible refine gate_callee (f := 79) rfl ?_); refine goesL_ (some 15) rfl rfl Try.func79 (by kernel_rfl) rfl #[.pointer (some ⟨g, 0, none⟩), .int .i64 4] rfl (by (try simp only [List.map_toArray, List.map_cons, List.map_nil]); first | done | rfl | (simp only [List.length_drop, List.length_take]; rfl)) ?_; (with_reducible refine (spec_l15Rd_pick.calls kj2 g s0_0 x1001_2 4 t117 t118 w0 _ ?side1 ?side2 A9.out).mono ?_); (case side1 => repeat (first | (with_reducible first | exact HI0.out | apply IsS104.alloc | apply IsS104.drewN | apply IsS104.drew | apply IsS104.set_1 | refine IsS104.far ?_ NB0_114.out _) | exact HI0.out)); (case side2 => repeat (first | (with_reducible first | exact HB.out | apply below_alloc | apply pw_below_drewN | apply below_drew1 | refine below_set ?_ (IsS104.ge HI0.out) | refine below_set ?_ GE114.out) | exact HB.out)); rintro e w12 ⟨rfl, hi, hb, hk⟩; refine ⟨_, rfl, ?_⟩; have n0_ := Aside0.mk (KeepBut.blk hk (g' := gb114) (o := .cells #[.int .i64 0, .string (⟨#[]⟩ : ByteArray), .int .i64 0, .slice none 0 0, .slice none 0 0] 31 (0, 0)) (by (with_reducible repeat (first | refine blk_drewN ?_ _ | refine blk_drew ?_ | refine blk_alloc ?_ _)); exact BK114.out) NB114_0.out (by simp)); have n1_ := Aside0.mk (KeepBut.trans (by repeat (first | (with_reducible first | exact HK.out | apply KeepBut.set_ | apply keep_drewN | apply keep_drew | apply keep_alloc | refine keep_far ?_ GW114.out _) | exact HK.out)) hk (.inl rfl)); have n2_ := Aside0.mk (hb); have n3_ := Aside0.mk (hi); clear BK114; clear HK; clear HB; clear HI0; have BK114 := n0_; have HK := n1_; have HB := n2_; have HI0 := n3_; clear n0_ n1_ n2_ n3_; (try clear hb); (try clear hb2); (try clear hk); (try clear hi)) | ((with_reducible refine gate_dst (N := 18) rfl ?_); refine Kd.R_lit (Kd.int .i64) _ 3 ?hg (N := 18) ?hd (xs := ([0, 1, 2, 7, 42, 999] : List Int)) (inner := [.int .i64 0, .int .i64 1, .int .i64 2, .int .i64 7, .int .i64 42, .int .i64 999]) (ok := fun _ => True) (okp := fun _ => True) ?hr ?hp (fun _ hk => hk) trivial (Below.refl _ _) (Nat.le_refl _) (by simp) ?_; (case hd => rfl); (case hg => rfl); (case hr => first | (go_simp; done) | (go_simp; rfl)); (case hp => exact (Reps.one (show Kd.M (Kd.int .i64) _ _ _ 0 [.int .i64 0] from rfl) (Reps.one (show Kd.M (Kd.int .i64) _ _ _ 1 [.int .i64 1] from rfl) (Reps.one (show Kd.M (Kd.int .i64) _ _ _ 2 [.int .i64 2] from rfl) (Reps.one (show Kd.M (Kd.int .i64) _ _ _ 7 [.int .i64 7] from rfl) (Reps.one (show Kd.M (Kd.int .i64) _ _ _ 42 [.int .i64 42] from rfl) (Reps.one (show Kd.M (Kd.int .i64) _ _ _ 999 [.int .i64 999] from rfl) (Reps.none _ _)))))))); intro v120 w13 ho14 hb hg_ hnew_; clear hg_ hnew_; (first | rw [← Ny119.out] at ho14 | (simp only [Int.reduceToNat] at ho14; rw [← Ny119.out] at ho14)); have n0_ := Aside0.mk (Kd.R_lower ho14 (keep_size (w := w) (g := g) (row := none) (by repeat (first | (with_reducible first | exact HK.out | apply KeepBut.set_ | apply keep_drewN | apply keep_drew | apply keep_alloc | refine keep_far ?_ GW114.out _) | exact HK.out)))); have n1_ := Aside0.mk (blk_below (g := gb114) (o := .cells #[.int .i64 0, .string (⟨#[]⟩ : ByteArray), .int .i64 0, .slice none 0 0, .slice none 0 0] 31 (0, 0)) (by (with_reducible repeat (first | refine blk_drewN ?_ _ | refine blk_drew ?_ | refine blk_alloc ?_ _)); exact BK114.out) hb); have n2_ := Aside0.mk (IsS104.below (by repeat (first | (with_reducible first | exact HI0.out | apply IsS104.alloc | apply IsS104.drewN | apply IsS104.drew | apply IsS104.set_1 | refine IsS104.far ?_ NB0_114.out _) | exact HI0.out)) hb); have n3_ := Aside0.mk (KeepBut.trans (by repeat (first | (with_reducible first | exact HK.out | apply KeepBut.set_ | apply keep_drewN | apply keep_drew | apply keep_alloc | refine keep_far ?_ GW114.out _) | exact HK.out)) (KeepBut.of_below hb g none) (.inl rfl)); have n4_ := Aside0.mk (below_step (by repeat (first | (with_reducible first | exact HB.out | apply below_alloc | apply pw_below_drewN | apply below_drew1 | refine below_set ?_ (IsS104.ge HI0.out) | refine below_set ?_ GE114.out) | exact HB.out)) hb); clear BK114; clear HI0; clear HK; clear HB; have HO121 := n0_; have BK114 := n1_; have HI0 := n2_; have HK := n3_; have HB := n4_; clear n0_ n1_ n2_ n3_ n4_; clear hb ho14; obtain ⟨Ao15, co15, eo15⟩ := Kd.R_slice HO121.out; subst eo15) | ((with_reducible refine gate_callee (f := 126) rfl ?_); refine goesL_ (some 19) rfl rfl Try.func126 (by kernel_rfl) rfl #[.pointer (some ⟨g, 0, none⟩), .slice Ao15 y119.length co15] rfl (by (try simp only [List.map_toArray, List.map_cons, List.map_nil]); first | done | rfl | (simp only [List.length_drop, List.length_take]; rfl)) ?_; (with_reducible refine (spec_l15Rd_num.calls kj2 g s0_0 t118 _ _ y119 t122 t123 w0 _ ?side1 ?side2 ?side3 ?side4 ?side5 A11.out).mono ?_); (case side1 => repeat (first | (with_reducible first | exact HI0.out | apply IsS104.alloc | apply IsS104.drewN | apply IsS104.drew | apply IsS104.set_1 | refine IsS104.far ?_ NB0_114.out _) | exact HI0.out)); (case side2 => repeat (first | (with_reducible first | exact HB.out | apply below_alloc | apply pw_below_drewN | apply below_drew1 | refine below_set ?_ (IsS104.ge HI0.out) | refine below_set ?_ GE114.out) | exact HB.out)); (case side3 => repeat (first | exact (Kd.R_reads' HO121.out).2.2 | (with_reducible refine Kd.C_alloc ?_ _) | (with_reducible refine Kd.C_drewN ?_ _) | (with_reducible refine Kd.C_drew ?_))); (case side4 => exact (Kd.R_reads' HO121.out).2.1); (case side5 => exact far_slice (IsS104.own_ne HI0.out HO121.out (by decide))); rintro e w16 ⟨rfl, hi, hb, hk⟩; refine ⟨_, rfl, ?_⟩; have n0_ := Aside0.mk (KeepBut.blk hk (g' := gb114) (o := .cells #[.int .i64 0, .string (⟨#[]⟩ : ByteArray), .int .i64 0, .slice none 0 0, .slice none 0 0] 31 (0, 0)) (by (with_reducible repeat (first | refine blk_drewN ?_ _ | refine blk_drew ?_ | refine blk_alloc ?_ _)); exact BK114.out) NB114_0.out (by simp)); have n1_ := Aside0.mk (Kd.R_mono (Kd.R_keep (IsS104.apart (show IsS104 w0 _ g s0_0 t118 from by repeat (first | (with_reducible first | exact HI0.out | apply IsS104.alloc | apply IsS104.drewN | apply IsS104.drew | apply IsS104.set_1 | refine IsS104.far ?_ NB0_114.out _) | exact HI0.out)) (by (with_reducible repeat (first | apply Kd.R_alloc | apply Kd.R_drewN | apply Kd.R_drew)); exact HO121.out) (by decide)) hk (fun _ h => h.2)) (fun _ h => h.1)); have n2_ := Aside0.mk (KeepBut.trans (by repeat (first | (with_reducible first | exact HK.out | apply KeepBut.set_ | apply keep_drewN | apply keep_drew | apply keep_alloc | refine keep_far ?_ GW114.out _) | exact HK.out)) hk (.inl rfl)); have n3_ := Aside0.mk (hb); have n4_ := Aside0.mk (hi); clear BK114; clear HO121; clear HK; clear HB; clear HI0; have BK114 := n0_; have HO121 := n1_; have HK := n2_; have HB := n3_; have HI0 := n4_; clear n0_ n1_ n2_ n3_ n4_; (try clear hb); (try clear hb2); (try clear hk); (try clear hi); have hnb17 := NB114_0.out; have hnc17 := NB0_114.out; have hcz18_0 : w16.cell? ⟨gb114, 0, none⟩ = some (.int .i64 0) := (blk_cell BK114.out 0).trans rfl; have hcz18_1 : w16.cell? ⟨gb114, 1, none⟩ = some (.string (⟨#[]⟩ : ByteArray)) := (blk_cell BK114.out 1).trans rfl; have hcz18_2 : w16.cell? ⟨gb114, 2, none⟩ = some (.int .i64 0) := (blk_cell BK114.out 2).trans rfl; have hcz18_3 : w16.cell? ⟨gb114, 3, none⟩ = some (.slice none 0 0) := (blk_cell BK114.out 3).trans rfl; have hcz18_4 : w16.cell? ⟨gb114, 4, none⟩ = some (.slice none 0 0) := (blk_cell BK114.out 4).trans rfl; have hfz18_0 := blk_frozen BK114.out 0; have hfz18_1 := blk_frozen BK114.out 1; have hfz18_2 := blk_frozen BK114.out 2; have hfz18_3 := blk_frozen BK114.out 3; have hfz18_4 := blk_frozen BK114.out 4))
          refine bodyPost_ret (results_cell_row rfl _ _ gb114 31 #[.int .i64 2, .string (⟨#[]⟩ : ByteArray), .int .i64 t122, .slice none 0 0, .slice none 0 0] (0, 0) _ rfl (by (with_reducible repeat (first | refine blk_drewN ?_ _ | refine blk_drew ?_ | refine blk_alloc ?_ _)); refine blk_put (cs := #[.int .i64 2, .string (⟨#[]⟩ : ByteArray), .int .i64 t122, .slice none 0 0, .slice none 0 0]) ?_ 4 _ rfl; (with_reducible repeat (first | refine blk_drewN ?_ _ | refine blk_drew ?_ | refine blk_alloc ?_ _)); refine blk_put (cs := #[.int .i64 2, .string (⟨#[]⟩ : ByteArray), .int .i64 t122, .slice none 0 0, .slice none 0 0]) ?_ 3 _ rfl; (with_reducible repeat (first | refine blk_drewN ?_ _ | refine blk_drew ?_ | refine blk_alloc ?_ _)); refine blk_put (cs := #[.int .i64 2, .string (⟨#[]⟩ : ByteArray), .int .i64 0, .slice none 0 0, .slice none 0 0]) ?_ 2 _ rfl; (with_reducible repeat (first | refine blk_drewN ?_ _ | refine blk_drew ?_ | refine blk_alloc ?_ _)); refine blk_put (cs := #[.int .i64 2, .string (⟨#[]⟩ : ByteArray), .int .i64 0, .slice none 0 0, .slice none 0 0]) ?_ 1 _ rfl; (with_reducible repeat (first | refine blk_drewN ?_ _ | refine blk_drew ?_ | refine blk_alloc ?_ _)); refine blk_put (cs := #[.int .i64 0, .string (⟨#[]⟩ : ByteArray), .int .i64 0, .slice none 0 0, .slice none 0 0]) ?_ 0 _ rfl; (with_reducible repeat (first | refine blk_drewN ?_ _ | refine blk_drew ?_ | refine blk_alloc ?_ _)); exact BK114.out) Try.underlying31 rfl (by kernel_rfl)) rfl ?_
          exact ⟨_, _, by first | rfl | (simp [errW_none, errW_some] <;> rfl) | (simp [*, errW_none, errW_some] <;> rfl), by first | exact Kd.R_nil _ _ _ _ _ | exact Kd.N_nil _ _ _ _ _ | exact Kd.V_nil _ _ _ _ _ | exact Kd.Q_nil _ _ _ _ _ | exact Kd.S_nil _ _ _ _ _, by first | exact Kd.R_nil _ _ _ _ _ | exact Kd.N_nil _ _ _ _ _ | exact Kd.V_nil _ _ _ _ _ | exact Kd.Q_nil _ _ _ _ _ | exact Kd.S_nil _ _ _ _ _, by repeat (first | (with_reducible first | exact HI0.out | apply IsS104.alloc | apply IsS104.drewN | apply IsS104.drew | apply IsS104.set_1 | refine IsS104.far ?_ NB0_114.out _) | exact HI0.out), by repeat (first | (with_reducible first | exact HB.out | apply below_alloc | apply pw_below_drewN | apply below_drew1 | refine below_set ?_ (IsS104.ge HI0.out) | refine below_set ?_ GE114.out) | exact HB.out), by repeat (first | (with_reducible first | exact HK.out | apply KeepBut.set_ | apply keep_drewN | apply keep_drew | apply keep_alloc | refine keep_far ?_ GW114.out _) | exact HK.out)⟩
        · rw [if_neg c10] at H
          have c10b0 : (t117 == 0) = false := beq_eq_false_iff_ne.mpr c10
          have c10b1 : (t117 != 0) = true := bne_iff_ne.mpr c10
          obtain ⟨y124, hy124⟩ : ∃ y_ : List ByteArray, y_ = (([(⟨#[97]⟩ : ByteArray), (⟨#[98]⟩ : ByteArray), (⟨#[120]⟩ : ByteArray), (⟨#[121]⟩ : ByteArray), (⟨#[102]⟩ : ByteArray), (⟨#[105, 102]⟩ : ByteArray), (⟨#[108, 101, 116]⟩ : ByteArray), (⟨#[43]⟩ : ByteArray)] : List ByteArray)) := ⟨_, rfl⟩
          replace H : ((spec_l15Rd_of.f kj2 s0_0 t118 y124).bind fun bt127 => ((spec_l1Name.f bt127.1).bind fun bt129 => (some (bt129.1, bt129.2.1, bt129.2.2.1, bt129.2.2.2.1, bt129.2.2.2.2, bt127.2)))) = some (r1, r2, r3, r4, r5, r6) := by first | (rw [hy124]; with_reducible exact H) | (have H2_ := (Option.bind_some _ _).symm.trans H; rw [hy124]; with_reducible exact H2_) | (have H2_ := (Option.bind_some _ _).symm.trans H; with_reducible exact H2_) | with_reducible exact H | (rw [hy124]; exact H) | exact H
          have Ny124 := Aside0.mk hy124
          clear hy124
          replace H := Option.bind_eq_some_iff.mp H
          obtain ⟨⟨t127, t128⟩, A190, H⟩ := H
          replace H : ((spec_l1Name.f t127).bind fun bt129 => (some (bt129.1, bt129.2.1, bt129.2.2.1, bt129.2.2.2.1, bt129.2.2.2.2, t128))) = some (r1, r2, r3, r4, r5, r6) := H
          have A19 := Aside0.mk A190
          clear A190
          replace H := Option.bind_eq_some_iff.mp H
          obtain ⟨⟨t129, t130, t131, t132, t135⟩, A200, H⟩ := H
          replace H : (some (t129, t130, t131, t132, t135, t128)) = some (r1, r2, r3, r4, r5, r6) := H
          have A20 := Aside0.mk A200
          clear A200
          simp only [Option.some.injEq, Prod.mk.injEq] at H
          obtain ⟨rfl, rfl, rfl, rfl, rfl, rfl⟩ := H
          go_wp2_with (first | ((with_reducible refine gate_callee (f := 79) rfl ?_); refine goesL_ (some 15) rfl rfl Try.func79 (by kernel_rfl) rfl #[.pointer (some ⟨g, 0, none⟩), .int .i64 4] rfl (by (try simp only [List.map_toArray, List.map_cons, List.map_nil]); first | done | rfl | (simp only [List.length_drop, List.length_take]; rfl)) ?_; (with_reducible refine (spec_l15Rd_pick.calls kj2 g s0_0 x1001_2 4 t117 t118 w0 _ ?side1 ?side2 A9.out).mono ?_); (case side1 => repeat (first | (with_reducible first | exact HI0.out | apply IsS104.alloc | apply IsS104.drewN | apply IsS104.drew | apply IsS104.set_1 | refine IsS104.far ?_ NB0_114.out _) | exact HI0.out)); (case side2 => repeat (first | (with_reducible first | exact HB.out | apply below_alloc | apply pw_below_drewN | apply below_drew1 | refine below_set ?_ (IsS104.ge HI0.out) | refine below_set ?_ GE114.out) | exact HB.out)); rintro e w21 ⟨rfl, hi, hb, hk⟩; refine ⟨_, rfl, ?_⟩; have n0_ := Aside0.mk (KeepBut.blk hk (g' := gb114) (o := .cells #[.int .i64 0, .string (⟨#[]⟩ : ByteArray), .int .i64 0, .slice none 0 0, .slice none 0 0] 31 (0, 0)) (by (with_reducible repeat (first | refine blk_drewN ?_ _ | refine blk_drew ?_ | refine blk_alloc ?_ _)); exact BK114.out) NB114_0.out (by simp)); have n1_ := Aside0.mk (KeepBut.trans (by repeat (first | (with_reducible first | exact HK.out | apply KeepBut.set_ | apply keep_drewN | apply keep_drew | apply keep_alloc | refine keep_far ?_ GW114.out _) | exact HK.out)) hk (.inl rfl)); have n2_ := Aside0.mk (hb); have n3_ := Aside0.mk (hi); clear BK114; clear HK; clear HB; clear HI0; have BK114 := n0_; have HK := n1_; have HB := n2_; have HI0 := n3_; clear n0_ n1_ n2_ n3_; (try clear hb); (try clear hb2); (try clear hk); (try clear hi)) | ((with_reducible refine gate_dst (N := 22) rfl ?_); refine Kd.R_lit Kd.string _ 9 ?hg (N := 22) ?hd (xs := ([(⟨#[97]⟩ : ByteArray), (⟨#[98]⟩ : ByteArray), (⟨#[120]⟩ : ByteArray), (⟨#[121]⟩ : ByteArray), (⟨#[102]⟩ : ByteArray), (⟨#[105, 102]⟩ : ByteArray), (⟨#[108, 101, 116]⟩ : ByteArray), (⟨#[43]⟩ : ByteArray)] : List ByteArray)) (inner := [.string (⟨#[97]⟩ : ByteArray), .string (⟨#[98]⟩ : ByteArray), .string (⟨#[120]⟩ : ByteArray), .string (⟨#[121]⟩ : ByteArray), .string (⟨#[102]⟩ : ByteArray), .string (⟨#[105, 102]⟩ : ByteArray), .string (⟨#[108, 101, 116]⟩ : ByteArray), .string (⟨#[43]⟩ : ByteArray)]) (ok := fun _ => True) (okp := fun _ => True) ?hr ?hp (fun _ hk => hk) trivial (Below.refl _ _) (Nat.le_refl _) (by simp) ?_; (case hd => rfl); (case hg => rfl); (case hr => first | (go_simp; done) | (go_simp; rfl)); (case hp => exact (Reps.one (show Kd.M Kd.string _ _ _ (⟨#[97]⟩ : ByteArray) [.string (⟨#[97]⟩ : ByteArray)] from rfl) (Reps.one (show Kd.M Kd.string _ _ _ (⟨#[98]⟩ : ByteArray) [.string (⟨#[98]⟩ : ByteArray)] from rfl) (Reps.one (show Kd.M Kd.string _ _ _ (⟨#[120]⟩ : ByteArray) [.string (⟨#[120]⟩ : ByteArray)] from rfl) (Reps.one (show Kd.M Kd.string _ _ _ (⟨#[121]⟩ : ByteArray) [.string (⟨#[121]⟩ : ByteArray)] from rfl) (Reps.one (show Kd.M Kd.string _ _ _ (⟨#[102]⟩ : ByteArray) [.string (⟨#[102]⟩ : ByteArray)] from rfl) (Reps.one (show Kd.M Kd.string _ _ _ (⟨#[105, 102]⟩ : ByteArray) [.string (⟨#[105, 102]⟩ : ByteArray)] from rfl) (Reps.one (show Kd.M Kd.string _ _ _ (⟨#[108, 101, 116]⟩ : ByteArray) [.string (⟨#[108, 101, 116]⟩ : ByteArray)] from rfl) (Reps.one (show Kd.M Kd.string _ _ _ (⟨#[43]⟩ : ByteArray) [.string (⟨#[43]⟩ : ByteArray)] from rfl) (Reps.none _ _)))))))))); intro v125 w22 ho23 hb hg_ hnew_; clear hg_ hnew_; (first | rw [← Ny124.out] at ho23 | (simp only [Int.reduceToNat] at ho23; rw [← Ny124.out] at ho23)); have n0_ := Aside0.mk (Kd.R_lower ho23 (keep_size (w := w) (g := g) (row := none) (by repeat (first | (with_reducible first | exact HK.out | apply KeepBut.set_ | apply keep_drewN | apply keep_drew | apply keep_alloc | refine keep_far ?_ GW114.out _) | exact HK.out)))); have n1_ := Aside0.mk (blk_below (g := gb114) (o := .cells #[.int .i64 0, .string (⟨#[]⟩ : ByteArray), .int .i64 0, .slice none 0 0, .slice none 0 0] 31 (0, 0)) (by (with_reducible repeat (first | refine blk_drewN ?_ _ | refine blk_drew ?_ | refine blk_alloc ?_ _)); exact BK114.out) hb); have n2_ := Aside0.mk (IsS104.below (by repeat (first | (with_reducible first | exact HI0.out | apply IsS104.alloc | apply IsS104.drewN | apply IsS104.drew | apply IsS104.set_1 | refine IsS104.far ?_ NB0_114.out _) | exact HI0.out)) hb); have n3_ := Aside0.mk (KeepBut.trans (by repeat (first | (with_reducible first | exact HK.out | apply KeepBut.set_ | apply keep_drewN | apply keep_drew | apply keep_alloc | refine keep_far ?_ GW114.out _) | exact HK.out)) (KeepBut.of_below hb g none) (.inl rfl)); have n4_ := Aside0.mk (below_step (by repeat (first | (with_reducible first | exact HB.out | apply below_alloc | apply pw_below_drewN | apply below_drew1 | refine below_set ?_ (IsS104.ge HI0.out) | refine below_set ?_ GE114.out) | exact HB.out)) hb); clear BK114; clear HI0; clear HK; clear HB; have HO126 := n0_; have BK114 := n1_; have HI0 := n2_; have HK := n3_; have HB := n4_; clear n0_ n1_ n2_ n3_ n4_; clear hb ho23; obtain ⟨Ao24, co24, eo24⟩ := Kd.R_slice HO126.out; subst eo24) | ((with_reducible refine gate_callee (f := 131) rfl ?_); refine goesL_ (some 23) rfl rfl Try.func131 (by kernel_rfl) rfl #[.pointer (some ⟨g, 0, none⟩), .slice Ao24 y124.length co24] rfl (by (try simp only [List.map_toArray, List.map_cons, List.map_nil]); first | done | rfl | (simp only [List.length_drop, List.length_take]; rfl)) ?_; (with_reducible refine (spec_l15Rd_of.calls kj2 g s0_0 t118 _ _ y124 t127 t128 w0 _ ?side1 ?side2 ?side3 ?side4 ?side5 A19.out).mono ?_); (case side1 => repeat (first | (with_reducible first | exact HI0.out | apply IsS104.alloc | apply IsS104.drewN | apply IsS104.drew | apply IsS104.set_1 | refine IsS104.far ?_ NB0_114.out _) | exact HI0.out)); (case side2 => repeat (first | (with_reducible first | exact HB.out | apply below_alloc | apply pw_below_drewN | apply below_drew1 | refine below_set ?_ (IsS104.ge HI0.out) | refine below_set ?_ GE114.out) | exact HB.out)); (case side3 => repeat (first | exact (Kd.R_reads' HO126.out).2.2 | (with_reducible refine Kd.C_alloc ?_ _) | (with_reducible refine Kd.C_drewN ?_ _) | (with_reducible refine Kd.C_drew ?_))); (case side4 => exact (Kd.R_reads' HO126.out).2.1); (case side5 => exact far_slice (IsS104.own_ne HI0.out HO126.out (by decide))); rintro e w25 ⟨rfl, hi, hb, hk⟩; refine ⟨_, rfl, ?_⟩; have n0_ := Aside0.mk (KeepBut.blk hk (g' := gb114) (o := .cells #[.int .i64 0, .string (⟨#[]⟩ : ByteArray), .int .i64 0, .slice none 0 0, .slice none 0 0] 31 (0, 0)) (by (with_reducible repeat (first | refine blk_drewN ?_ _ | refine blk_drew ?_ | refine blk_alloc ?_ _)); exact BK114.out) NB114_0.out (by simp)); have n1_ := Aside0.mk (Kd.R_mono (Kd.R_keep (IsS104.apart (show IsS104 w0 _ g s0_0 t118 from by repeat (first | (with_reducible first | exact HI0.out | apply IsS104.alloc | apply IsS104.drewN | apply IsS104.drew | apply IsS104.set_1 | refine IsS104.far ?_ NB0_114.out _) | exact HI0.out)) (by (with_reducible repeat (first | apply Kd.R_alloc | apply Kd.R_drewN | apply Kd.R_drew)); exact HO126.out) (by decide)) hk (fun _ h => h.2)) (fun _ h => h.1)); have n2_ := Aside0.mk (KeepBut.trans (by repeat (first | (with_reducible first | exact HK.out | apply KeepBut.set_ | apply keep_drewN | apply keep_drew | apply keep_alloc | refine keep_far ?_ GW114.out _) | exact HK.out)) hk (.inl rfl)); have n3_ := Aside0.mk (hb); have n4_ := Aside0.mk (hi); clear BK114; clear HO126; clear HK; clear HB; clear HI0; have BK114 := n0_; have HO126 := n1_; have HK := n2_; have HB := n3_; have HI0 := n4_; clear n0_ n1_ n2_ n3_ n4_; (try clear hb); (try clear hb2); (try clear hk); (try clear hi)) | ((with_reducible refine gate_callee (f := 114) rfl ?_); refine goesL_ (some 24) rfl rfl Try.func114 (by kernel_rfl) rfl #[.string t127] rfl (by (try simp only [List.map_toArray, List.map_cons, List.map_nil]); first | done | rfl | (simp only [List.length_drop, List.length_take]; rfl)) ?_; (with_reducible refine (spec_l1Name.calls t127 t129 t130 t131 t132 t135 _ A20.out).mono ?_); rintro e w26 ⟨v133, v136, rfl, ho0, ho1, hb⟩; refine ⟨_, rfl, ?_⟩; have n0_ := Aside0.mk (Kd.R_below (by (with_reducible repeat (first | apply Kd.R_alloc | apply Kd.R_drewN | apply Kd.R_drew)); exact HO126.out) hb); have n1_ := Aside0.mk (Kd.R_lower ho0 (keep_size (w := w) (g := g) (row := none) (by repeat (first | (with_reducible first | exact HK.out | apply KeepBut.set_ | apply keep_drewN | apply keep_drew | apply keep_alloc | refine keep_far ?_ GW114.out _) | exact HK.out)))); have n2_ := Aside0.mk (Kd.R_lower (Kd.R_newB ho1 (g := gb114) (o := .cells #[.int .i64 0, .string (⟨#[]⟩ : ByteArray), .int .i64 0, .slice none 0 0, .slice none 0 0] 31 (0, 0)) (by (with_reducible repeat (first | refine blk_drewN ?_ _ | refine blk_drew ?_ | refine blk_alloc ?_ _)); exact BK114.out)) (keep_size (w := w) (g := g) (row := none) (by repeat (first | (with_reducible first | exact HK.out | apply KeepBut.set_ | apply keep_drewN | apply keep_drew | apply keep_alloc | refine keep_far ?_ GW114.out _) | exact HK.out)))); have n3_ := Aside0.mk (blk_below (g := gb114) (o := .cells #[.int .i64 0, .string (⟨#[]⟩ : ByteArray), .int .i64 0, .slice none 0 0, .slice none 0 0] 31 (0, 0)) (by (with_reducible repeat (first | refine blk_drewN ?_ _ | refine blk_drew ?_ | refine blk_alloc ?_ _)); exact BK114.out) hb); have n4_ := Aside0.mk (IsS104.below (by repeat (first | (with_reducible first | exact HI0.out | apply IsS104.alloc | apply IsS104.drewN | apply IsS104.drew | apply IsS104.set_1 | refine IsS104.far ?_ NB0_114.out _) | exact HI0.out)) hb); have n5_ := Aside0.mk (KeepBut.trans (by repeat (first | (with_reducible first | exact HK.out | apply KeepBut.set_ | apply keep_drewN | apply keep_drew | apply keep_alloc | refine keep_far ?_ GW114.out _) | exact HK.out)) (KeepBut.of_below hb g none) (.inl rfl)); have n6_ := Aside0.mk (below_step (by repeat (first | (with_reducible first | exact HB.out | apply below_alloc | apply pw_below_drewN | apply below_drew1 | refine below_set ?_ (IsS104.ge HI0.out) | refine below_set ?_ GE114.out) | exact HB.out)) hb); clear HO126; clear BK114; clear HI0; clear HK; clear HB; have HO126 := n0_; have HO134 := n1_; have HO137 := n2_; have BK114 := n3_; have HI0 := n4_; have HK := n5_; have HB := n6_; clear n0_ n1_ n2_ n3_ n4_ n5_ n6_; (try clear hb); (try clear hb2); (try clear hk); (try clear hi); (try clear ho0); (try clear ho1); have hnb27 := NB114_0.out; have hnc27 := NB0_114.out; have hcz28_0 : w26.cell? ⟨gb114, 0, none⟩ = some (.int .i64 0) := (blk_cell BK114.out 0).trans rfl; have hcz28_1 : w26.cell? ⟨gb114, 1, none⟩ = some (.string (⟨#[]⟩ : ByteArray)) := (blk_cell BK114.out 1).trans rfl; have hcz28_2 : w26.cell? ⟨gb114, 2, none⟩ = some (.int .i64 0) := (blk_cell BK114.out 2).trans rfl; have hcz28_3 : w26.cell? ⟨gb114, 3, none⟩ = some (.slice none 0 0) := (blk_cell BK114.out 3).trans rfl; have hcz28_4 : w26.cell? ⟨gb114, 4, none⟩ = some (.slice none 0 0) := (blk_cell BK114.out 4).trans rfl; have hfz28_0 := blk_frozen BK114.out 0; have hfz28_1 := blk_frozen BK114.out 1; have hfz28_2 := blk_frozen BK114.out 2; have hfz28_3 := blk_frozen BK114.out 3; have hfz28_4 := blk_frozen BK114.out 4; obtain ⟨Ao29, co29, eo29⟩ := Kd.R_slice HO134.out; subst eo29; obtain ⟨Ao30, co30, eo30⟩ := Kd.R_slice HO137.out; subst eo30))
          refine bodyPost_ret (results_cell_row rfl _ _ gb114 31 #[.int .i64 t129, .string t130, .int .i64 t131, .slice Ao29 t132.length co29, .slice Ao30 t135.length co30] (0, 0) _ rfl (by (with_reducible repeat (first | refine blk_drewN ?_ _ | refine blk_drew ?_ | refine blk_alloc ?_ _)); refine blk_put (cs := #[.int .i64 t129, .string t130, .int .i64 t131, .slice Ao29 t132.length co29, .slice none 0 0]) ?_ 4 _ rfl; (with_reducible repeat (first | refine blk_drewN ?_ _ | refine blk_drew ?_ | refine blk_alloc ?_ _)); refine blk_put (cs := #[.int .i64 t129, .string t130, .int .i64 t131, .slice none 0 0, .slice none 0 0]) ?_ 3 _ rfl; (with_reducible repeat (first | refine blk_drewN ?_ _ | refine blk_drew ?_ | refine blk_alloc ?_ _)); refine blk_put (cs := #[.int .i64 t129, .string t130, .int .i64 0, .slice none 0 0, .slice none 0 0]) ?_ 2 _ rfl; (with_reducible repeat (first | refine blk_drewN ?_ _ | refine blk_drew ?_ | refine blk_alloc ?_ _)); refine blk_put (cs := #[.int .i64 t129, .string (⟨#[]⟩ : ByteArray), .int .i64 0, .slice none 0 0, .slice none 0 0]) ?_ 1 _ rfl; (with_reducible repeat (first | refine blk_drewN ?_ _ | refine blk_drew ?_ | refine blk_alloc ?_ _)); refine blk_put (cs := #[.int .i64 0, .string (⟨#[]⟩ : ByteArray), .int .i64 0, .slice none 0 0, .slice none 0 0]) ?_ 0 _ rfl; (with_reducible repeat (first | refine blk_drewN ?_ _ | refine blk_drew ?_ | refine blk_alloc ?_ _)); exact BK114.out) Try.underlying31 rfl (by kernel_rfl)) rfl ?_
          exact ⟨_, _, by first | rfl | (simp [errW_none, errW_some] <;> rfl) | (simp [*, errW_none, errW_some] <;> rfl), by (with_reducible repeat (first | apply Kd.R_alloc | apply Kd.R_drewN | apply Kd.R_drew)); exact Kd.R_mono (Kd.R_far (p := ⟨gb114, 4, none⟩) (Kd.R_far (p := ⟨gb114, 3, none⟩) (Kd.R_far (p := ⟨gb114, 2, none⟩) (Kd.R_far (p := ⟨gb114, 1, none⟩) (Kd.R_far (p := ⟨gb114, 0, none⟩) (Kd.R_types HO134.out BK114.out (by decide)) (fun _ hk => hk.2) (.int .i64 t129)) (fun _ hk => hk.2) (.string t130)) (fun _ hk => hk.2) (.int .i64 t131)) (fun _ hk => hk.2) (.slice Ao29 t132.length co29)) (fun _ hk => hk.2) (.slice Ao30 t135.length co30)) (fun _ hk => trivial), by (with_reducible repeat (first | apply Kd.R_alloc | apply Kd.R_drewN | apply Kd.R_drew)); exact Kd.R_mono (Kd.R_far (p := ⟨gb114, 4, none⟩) (Kd.R_far (p := ⟨gb114, 3, none⟩) (Kd.R_far (p := ⟨gb114, 2, none⟩) (Kd.R_far (p := ⟨gb114, 1, none⟩) (Kd.R_far (p := ⟨gb114, 0, none⟩) (Kd.R_mono HO137.out (fun k_ hk => (⟨hk, hk.2⟩ : _ ∧ k_ ≠ gb114))) (fun _ hk => hk.2) (.int .i64 t129)) (fun _ hk => hk.2) (.string t130)) (fun _ hk => hk.2) (.int .i64 t131)) (fun _ hk => hk.2) (.slice Ao29 t132.length co29)) (fun _ hk => hk.2) (.slice Ao30 t135.length co30)) (fun _ hk => hk.1.1), by repeat (first | (with_reducible first | exact HI0.out | apply IsS104.alloc | apply IsS104.drewN | apply IsS104.drew | apply IsS104.set_1 | refine IsS104.far ?_ NB0_114.out _) | exact HI0.out), by repeat (first | (with_reducible first | exact HB.out | apply below_alloc | apply pw_below_drewN | apply below_drew1 | refine below_set ?_ (IsS104.ge HI0.out) | refine below_set ?_ GE114.out) | exact HB.out), by repeat (first | (with_reducible first | exact HK.out | apply KeepBut.set_ | apply keep_drewN | apply keep_drew | apply keep_alloc | refine keep_far ?_ GW114.out _) | exact HK.out)⟩
      · replace c8 := Bool.eq_false_iff.mpr c8
        subst c8
        have H1 : ((spec_l15Rd_pick.f kj2 s0_0 x1001_2 4).bind fun bt139 => (spec_l1Some.l0 kj2 a1 bt139.1 s0_0 bt139.2 3 (⟨#[]⟩ : ByteArray) 0 ([] : List (S31)))) = some (r1, r2, r3, r4, r5, r6) := by rw [if_neg (show ¬ (false = true) by decide)] at H; exact H
        clear H
        have H := H1
        clear H1
        replace H := Option.bind_eq_some_iff.mp H
        obtain ⟨⟨t139, t140⟩, A310, H⟩ := H
        replace H : (spec_l1Some.l0 kj2 a1 t139 s0_0 t140 3 (⟨#[]⟩ : ByteArray) 0 ([] : List (S31))) = some (r1, r2, r3, r4, r5, r6) := H
        have A31 := Aside0.mk A310
        clear A310
        have H' := Aside0.mk H
        clear H
        go_wp2_with (first | ((with_reducible refine gate_dst (N := 5) rfl ?_); refine box_event ?hg (N := 5) ?hd (cs := #[.int .i64 0, .string (⟨#[]⟩ : ByteArray), .int .i64 0, .slice none 0 0, .slice none 0 0]) (t := 31) ?hr ?_; (case hd => rfl); (case hg => rfl); (case hr => first | (go_simp; done) | (go_simp; rfl)); intro gb138 hg w32 hbox hb; have n0_ := Aside0.mk (blk_below (g := gb114) (o := .cells #[.int .i64 0, .string (⟨#[]⟩ : ByteArray), .int .i64 0, .slice none 0 0, .slice none 0 0] 31 (0, 0)) (by (with_reducible repeat (first | refine blk_drewN ?_ _ | refine blk_drew ?_ | refine blk_alloc ?_ _)); exact BK114.out) hb); have n1_ := Aside0.mk (IsS104.below (by repeat (first | (with_reducible first | exact HI0.out | apply IsS104.alloc | apply IsS104.drewN | apply IsS104.drew | apply IsS104.set_1 | refine IsS104.far ?_ NB0_114.out _) | exact HI0.out)) hb); have n2_ := Aside0.mk (KeepBut.trans (by repeat (first | (with_reducible first | exact HK.out | apply KeepBut.set_ | apply keep_drewN | apply keep_drew | apply keep_alloc | refine keep_far ?_ GW114.out _) | exact HK.out)) (KeepBut.of_below hb g none) (.inl rfl)); have n3_ := Aside0.mk (below_step (by repeat (first | (with_reducible first | exact HB.out | apply below_alloc | apply pw_below_drewN | apply below_drew1 | refine below_set ?_ (IsS104.ge HI0.out) | refine below_set ?_ GE114.out) | exact HB.out)) hb); have n4_ := Aside0.mk (hbox); have n5_ := Aside0.mk ((by rw [hg]; exact (keep_size (w := w) (g := g) (row := none) (by repeat (first | (with_reducible first | exact HK.out | apply KeepBut.set_ | apply keep_drewN | apply keep_drew | apply keep_alloc | refine keep_far ?_ GW114.out _) | exact HK.out))) : w.heap.size ≤ gb138)); have n6_ := Aside0.mk ((Nat.le_trans HW0.out (by rw [hg]; exact (keep_size (w := w) (g := g) (row := none) (by repeat (first | (with_reducible first | exact HK.out | apply KeepBut.set_ | apply keep_drewN | apply keep_drew | apply keep_alloc | refine keep_far ?_ GW114.out _) | exact HK.out))) : w.heap.size ≤ gb138) : w0.heap.size ≤ gb138)); have n7_ := Aside0.mk ((by rw [hg]; exact Nat.ne_of_lt (blk_lt (g := gb114) (o := .cells #[.int .i64 0, .string (⟨#[]⟩ : ByteArray), .int .i64 0, .slice none 0 0, .slice none 0 0] 31 (0, 0)) (by (with_reducible repeat (first | refine blk_drewN ?_ _ | refine blk_drew ?_ | refine blk_alloc ?_ _)); exact BK114.out)) : gb114 ≠ gb138)); have n8_ := Aside0.mk ((by rw [hg]; exact Nat.ne_of_gt (blk_lt (g := gb114) (o := .cells #[.int .i64 0, .string (⟨#[]⟩ : ByteArray), .int .i64 0, .slice none 0 0, .slice none 0 0] 31 (0, 0)) (by (with_reducible repeat (first | refine blk_drewN ?_ _ | refine blk_drew ?_ | refine blk_alloc ?_ _)); exact BK114.out)) : gb138 ≠ gb114)); have n9_ := Aside0.mk ((by rw [hg]; exact Nat.ne_of_lt (IsS104.lt (show IsS104 w0 _ g s0_0 x1001_2 from by repeat (first | (with_reducible first | exact HI0.out | apply IsS104.alloc | apply IsS104.drewN | apply IsS104.drew | apply IsS104.set_1 | refine IsS104.far ?_ NB0_114.out _) | exact HI0.out))) : g ≠ gb138)); have n10_ := Aside0.mk ((by rw [hg]; exact Nat.ne_of_gt (IsS104.lt (show IsS104 w0 _ g s0_0 x1001_2 from by repeat (first | (with_reducible first | exact HI0.out | apply IsS104.alloc | apply IsS104.drewN | apply IsS104.drew | apply IsS104.set_1 | refine IsS104.far ?_ NB0_114.out _) | exact HI0.out))) : gb138 ≠ g)); clear BK114; clear HI0; clear HK; clear HB; have BK114 := n0_; have HI0 := n1_; have HK := n2_; have HB := n3_; have BK138 := n4_; have GW138 := n5_; have GE138 := n6_; have NB114_138 := n7_; have NB138_114 := n8_; have NB0_138 := n9_; have NB138_0 := n10_; clear n0_ n1_ n2_ n3_ n4_ n5_ n6_ n7_ n8_ n9_ n10_; clear hb hbox hg; have hnb33 := NB138_114.out; have hnc33 := NB114_138.out; have hnb34 := NB138_0.out; have hnc34 := NB0_138.out; have hcz35_0 : w32.cell? ⟨gb138, 0, none⟩ = some (.int .i64 0) := (blk_cell BK138.out 0).trans rfl; have hcz35_1 : w32.cell? ⟨gb138, 1, none⟩ = some (.string (⟨#[]⟩ : ByteArray)) := (blk_cell BK138.out 1).trans rfl; have hcz35_2 : w32.cell? ⟨gb138, 2, none⟩ = some (.int .i64 0) := (blk_cell BK138.out 2).trans rfl; have hcz35_3 : w32.cell? ⟨gb138, 3, none⟩ = some (.slice none 0 0) := (blk_cell BK138.out 3).trans rfl; have hcz35_4 : w32.cell? ⟨gb138, 4, none⟩ = some (.slice none 0 0) := (blk_cell BK138.out 4).trans rfl; have hfz35_0 := blk_frozen BK138.out 0; have hfz35_1 := blk_frozen BK138.out 1; have hfz35_2 := blk_frozen BK138.out 2; have hfz35_3 := blk_frozen BK138.out 3; have hfz35_4 := blk_frozen BK138.out 4) | ((with_reducible refine gate_callee (f := 79) rfl ?_); refine goesL_ (some 27) rfl rfl Try.func79 (by kernel_rfl) rfl #[.pointer (some ⟨g, 0, none⟩), .int .i64 4] rfl (by (try simp only [List.map_toArray, List.map_cons, List.map_nil]); first | done | rfl | (simp only [List.length_drop, List.length_take]; rfl)) ?_; (with_reducible refine (spec_l15Rd_pick.calls kj2 g s0_0 x1001_2 4 t139 t140 w0 _ ?side1 ?side2 A31.out).mono ?_); (case side1 => repeat (first | (with_reducible first | exact HI0.out | apply IsS104.alloc | apply IsS104.drewN | apply IsS104.drew | apply IsS104.set_1 | refine IsS104.far ?_ NB0_114.out _ | refine IsS104.far ?_ NB0_138.out _) | exact HI0.out)); (case side2 => repeat (first | (with_reducible first | exact HB.out | apply below_alloc | apply pw_below_drewN | apply below_drew1 | refine below_set ?_ (IsS104.ge HI0.out) | refine below_set ?_ GE114.out | refine below_set ?_ GE138.out) | exact HB.out)); rintro e w36 ⟨rfl, hi, hb, hk⟩; refine ⟨_, rfl, ?_⟩; have n0_ := Aside0.mk (KeepBut.blk hk (g' := gb114) (o := .cells #[.int .i64 0, .string (⟨#[]⟩ : ByteArray), .int .i64 0, .slice none 0 0, .slice none 0 0] 31 (0, 0)) (by (with_reducible repeat (first | refine blk_drewN ?_ _ | refine blk_drew ?_ | refine blk_alloc ?_ _)); refine blk_far ?_ NB114_138.out _; (with_reducible repeat (first | refine blk_drewN ?_ _ | refine blk_drew ?_ | refine blk_alloc ?_ _)); refine blk_far ?_ NB114_138.out _; (with_reducible repeat (first | refine blk_drewN ?_ _ | refine blk_drew ?_ | refine blk_alloc ?_ _)); refine blk_far ?_ NB114_138.out _; (with_reducible repeat (first | refine blk_drewN ?_ _ | refine blk_drew ?_ | refine blk_alloc ?_ _)); refine blk_far ?_ NB114_138.out _; (with_reducible repeat (first | refine blk_drewN ?_ _ | refine blk_drew ?_ | refine blk_alloc ?_ _)); refine blk_far ?_ NB114_138.out _; (with_reducible repeat (first | refine blk_drewN ?_ _ | refine blk_drew ?_ | refine blk_alloc ?_ _)); exact BK114.out) NB114_0.out (by simp)); have n1_ := Aside0.mk (KeepBut.blk hk (g' := gb138) (o := .cells #[.int .i64 3, .string (⟨#[]⟩ : ByteArray), .int .i64 0, .slice none 0 0, .slice none 0 0] 31 (0, 0)) (by (with_reducible repeat (first | refine blk_drewN ?_ _ | refine blk_drew ?_ | refine blk_alloc ?_ _)); refine blk_put (cs := #[.int .i64 3, .string (⟨#[]⟩ : ByteArray), .int .i64 0, .slice none 0 0, .slice none 0 0]) ?_ 4 _ rfl; (with_reducible repeat (first | refine blk_drewN ?_ _ | refine blk_drew ?_ | refine blk_alloc ?_ _)); refine blk_put (cs := #[.int .i64 3, .string (⟨#[]⟩ : ByteArray), .int .i64 0, .slice none 0 0, .slice none 0 0]) ?_ 3 _ rfl; (with_reducible repeat (first | refine blk_drewN ?_ _ | refine blk_drew ?_ | refine blk_alloc ?_ _)); refine blk_put (cs := #[.int .i64 3, .string (⟨#[]⟩ : ByteArray), .int .i64 0, .slice none 0 0, .slice none 0 0]) ?_ 2 _ rfl; (with_reducible repeat (first | refine blk_drewN ?_ _ | refine blk_drew ?_ | refine blk_alloc ?_ _)); refine blk_put (cs := #[.int .i64 3, .string (⟨#[]⟩ : ByteArray), .int .i64 0, .slice none 0 0, .slice none 0 0]) ?_ 1 _ rfl; (with_reducible repeat (first | refine blk_drewN ?_ _ | refine blk_drew ?_ | refine blk_alloc ?_ _)); refine blk_put (cs := #[.int .i64 0, .string (⟨#[]⟩ : ByteArray), .int .i64 0, .slice none 0 0, .slice none 0 0]) ?_ 0 _ rfl; (with_reducible repeat (first | refine blk_drewN ?_ _ | refine blk_drew ?_ | refine blk_alloc ?_ _)); exact BK138.out) NB138_0.out (by simp)); have n2_ := Aside0.mk (KeepBut.trans (by repeat (first | (with_reducible first | exact HK.out | apply KeepBut.set_ | apply keep_drewN | apply keep_drew | apply keep_alloc | refine keep_far ?_ GW114.out _ | refine keep_far ?_ GW138.out _) | exact HK.out)) hk (.inl rfl)); have n3_ := Aside0.mk (hb); have n4_ := Aside0.mk (hi); clear BK114; clear BK138; clear HK; clear HB; clear HI0; have BK114 := n0_; have BK138 := n1_; have HK := n2_; have HB := n3_; have HI0 := n4_; clear n0_ n1_ n2_ n3_ n4_; (try clear hb); (try clear hb2); (try clear hk); (try clear hi)))
        go_loopg [6] kj2 (fun kq v6 w' => ∃ (x6_2 : Int) (x1001_2 : Int) (x139004_2 : List (S31)) (u139004 : Value), v6 = .int .i64 x6_2 ∧ Aside0 (spec_l1Some.l0 kq a1 x6_2 s0_0 x1001_2 3 (⟨#[]⟩ : ByteArray) 0 x139004_2 = some (r1, r2, r3, r4, r5, r6)) ∧ Aside0 (kq ≤ kj2) ∧ Aside0 (Kd.R k31 31 w' w.heap.size (fun k_ => k_ ≠ gb114 ∧ k_ ≠ gb138) u139004 x139004_2) ∧ Aside0 (w'.heap[gb114]? = some (.cells #[.int .i64 0, .string (⟨#[]⟩ : ByteArray), .int .i64 0, (.slice none 0 0), (.slice none 0 0)] 31 (0, 0))) ∧ Aside0 (w'.heap[gb138]? = some (.cells #[.int .i64 3, .string (⟨#[]⟩ : ByteArray), .int .i64 0, (.slice none 0 0), u139004] 31 (0, 0))) ∧ Aside0 (IsS104 w0 w' g s0_0 x1001_2) ∧ Aside0 (KeepBut w w' g none) ∧ Aside0 (Below w0.heap.size w0 w'))
        case atStart => exact ⟨(t139), (t140), (([] : List (S31))), (.slice none 0 0), (by first | rfl | (simp; done) | (simp [*]; done)), H', ⟨Nat.le_refl _⟩, ⟨by first | exact Kd.R_nil _ _ _ _ _ | exact Kd.N_nil _ _ _ _ _ | exact Kd.V_nil _ _ _ _ _ | exact Kd.Q_nil _ _ _ _ _ | exact Kd.S_nil _ _ _ _ _⟩, ⟨by (with_reducible repeat (first | refine blk_drewN ?_ _ | refine blk_drew ?_ | refine blk_alloc ?_ _)); exact BK114.out⟩, ⟨by (with_reducible repeat (first | refine blk_drewN ?_ _ | refine blk_drew ?_ | refine blk_alloc ?_ _)); exact BK138.out⟩, ⟨by repeat (first | (with_reducible first | exact HI0.out | apply IsS104.alloc | apply IsS104.drewN | apply IsS104.drew | apply IsS104.set_1 | refine IsS104.far ?_ NB0_114.out _ | refine IsS104.far ?_ NB0_138.out _) | exact HI0.out)⟩, ⟨by repeat (first | (with_reducible first | exact HK.out | apply KeepBut.set_ | apply keep_drewN | apply keep_drew | apply keep_alloc | refine keep_far ?_ GW114.out _ | refine keep_far ?_ GW138.out _) | exact HK.out)⟩, ⟨by repeat (first | (with_reducible first | exact HB.out | apply below_alloc | apply pw_below_drewN | apply below_drew1 | refine below_set ?_ (IsS104.ge HI0.out) | refine below_set ?_ GE114.out | refine below_set ?_ GE138.out) | exact HB.out)⟩⟩
        case round =>
          clear H'
          try clear c1
          try clear c2
          try clear p2
          try clear c3
          try clear c5
          try clear c5b0
          try clear c5b1
          try clear c7
          try clear c8
          try clear c10
          try clear c10b0
          try clear c10b1
          try clear c11
          try clear c12
          try clear c13
          try clear c17
          try clear c27
          try clear c33
          try clear c34
          try clear hcz18_0
          try clear hcz18_1
          try clear hcz18_2
          try clear hcz18_3
          try clear hcz18_4
          try clear hcz28_0
          try clear hcz28_1
          try clear hcz28_2
          try clear hcz28_3
          try clear hcz28_4
          try clear hcz35_0
          try clear hcz35_1
          try clear hcz35_2
          try clear hcz35_3
          try clear hcz35_4
          try clear hfz18_0
          try clear hfz18_1
          try clear hfz18_2
          try clear hfz18_3
          try clear hfz18_4
          try clear hfz28_0
          try clear hfz28_1
          try clear hfz28_2
          try clear hfz28_3
          try clear hfz28_4
          try clear hfz35_0
          try clear hfz35_1
          try clear hfz35_2
          try clear hfz35_3
          try clear hfz35_4
          try clear p2
          obtain ⟨x6_2, x1001_2, x139004_2, u139004, rfl, HA, HK2, HO_139004, BK114, BK138, HI0, HK, HB⟩ := hrel
          cases gk with
          | zero => exact absurd HA.out (by simp [spec_l1Some.l0])
          | succ k2 =>
            have H := HA.out
            clear HA
            simp only [spec_l1Some.l0] at H
            by_cases c37 : x6_2 > 0
            · rw [if_pos c37] at H
              have c37b0 : decide (0 < x6_2) = true := decide_eq_true c37
              clear c37
              replace H := Option.bind_eq_some_iff.mp H
              obtain ⟨⟨t141, t142, t143, t144, t147, t150⟩, A380, H⟩ := H
              replace H : (if x139004_2.length < 1759218604441 then (spec_l1Some.l0 k2 a1 (wrap64 (x6_2 - 1)) s0_0 t150 3 (⟨#[]⟩ : ByteArray) 0 (x139004_2 ++ [(⟨t141, t142, t143, t144, t147⟩ : S31)])) else (none)) = some (r1, r2, r3, r4, r5, r6) := H
              have A38 := Aside0.mk A380
              clear A380
              by_cases c39 : x139004_2.length < 1759218604441
              · rw [if_pos c39] at H
                have LMc39 := Aside0.mk c39
                clear c39
                obtain ⟨y151, hy151⟩ : ∃ y_ : List (S31), y_ = (x139004_2 ++ [(⟨t141, t142, t143, t144, t147⟩ : S31)]) := ⟨_, rfl⟩
                replace H : (spec_l1Some.l0 k2 a1 (wrap64 (x6_2 - 1)) s0_0 t150 3 (⟨#[]⟩ : ByteArray) 0 y151) = some (r1, r2, r3, r4, r5, r6) := by first | (rw [hy151]; with_reducible exact H) | (have H2_ := (Option.bind_some _ _).symm.trans H; rw [hy151]; with_reducible exact H2_) | (have H2_ := (Option.bind_some _ _).symm.trans H; with_reducible exact H2_) | with_reducible exact H | (rw [hy151]; exact H) | exact H
                have Ny151 := Aside0.mk hy151
                clear hy151
                have H' := Aside0.mk H
                clear H
                try go_wp2
                have n0_ := Aside0.mk (Kd.R_drew HO_139004.out)
                have n1_ := Aside0.mk (blk_drew BK114.out)
                have n2_ := Aside0.mk (blk_drew BK138.out)
                have n3_ := Aside0.mk (IsS104.drew HI0.out)
                have n4_ := Aside0.mk (keep_drew HK.out)
                have n5_ := Aside0.mk (below_drew1 HB.out)
                clear HO_139004
                clear BK114
                clear BK138
                clear HI0
                clear HK
                clear HB
                have HO_139004 := n0_
                have BK114 := n1_
                have BK138 := n2_
                have HI0 := n3_
                have HK := n4_
                have HB := n5_
                clear n0_ n1_ n2_ n3_ n4_ n5_
                refine start_ (n := 10) (S := fun w' => w'.cell? ⟨gb138, 0, none⟩ = some (.int .i64 3) ∧ w'.cell? ⟨gb138, 1, none⟩ = some (.string (⟨#[]⟩ : ByteArray)) ∧ w'.cell? ⟨gb138, 2, none⟩ = some (.int .i64 0) ∧ w'.cell? ⟨gb138, 3, none⟩ = some (.slice none 0 0) ∧ w'.cell? ⟨gb138, 4, none⟩ = some (u139004)) (ds := [9]) #[false, false, false, false, false, false, false, false, false, false] (by kernel_rfl) rfl rfl ⟨(blk_cell BK138.out 0).trans rfl, (blk_cell BK138.out 1).trans rfl, (blk_cell BK138.out 2).trans rfl, (blk_cell BK138.out 3).trans rfl, (blk_cell BK138.out 4).trans rfl⟩ (fun hHeld => ?_); refine with_tabW spec_l1Some.tab9 spec_l1Some.bits9 (fun HT_ HW_ => ?_)
                generalize wr.drew = w40 at HO_139004 BK114 BK138 HI0 HK HB hHeld ⊢
                refine pure_ (i := 0) (N := some 32) (v := ?_) (a' := ?_) #[true, false, false, false, false, false, false, false, false, false] rfl rfl (any_of HT_.out (by kernel_rfl)) (fun _ _ _ h => h) (Or.inl ⟨by rfl, ?_⟩) ?_ ?_
                rotate_left
                · intro w'
                  go_simp
                  with_reducible rfl
                rotate_left
                · simp only [Act.put, List.setIfInBounds_toArray, List.set_cons_zero, List.set_cons_succ, i64_w, i32_w]
                  rfl
                refine pure_ (i := 2) (N := some 34) (v := ?_) (a' := ?_) #[true, false, true, false, false, false, false, false, false, false] rfl rfl (any_of HT_.out (by kernel_rfl)) (fun _ _ _ h => h) (Or.inl ⟨by rfl, ?_⟩) ?_ ?_
                rotate_left
                · intro w'
                  go_simp
                  with_reducible rfl
                rotate_left
                · simp only [Act.put, List.setIfInBounds_toArray, List.set_cons_zero, List.set_cons_succ, i64_w, i32_w]
                  rfl
                refine pure_ (i := 3) (N := some 35) (v := ?_) (a' := ?_) #[true, false, true, true, false, false, false, false, false, false] rfl rfl (any_of HT_.out (by kernel_rfl)) (fun _ _ _ h => h) (Or.inl ⟨by rfl, ?_⟩) ?_ ?_
                rotate_left
                · intro w'
                  go_simp
                  with_reducible rfl
                rotate_left
                · simp only [Act.put, List.setIfInBounds_toArray, List.set_cons_zero, List.set_cons_succ, i64_w, i32_w]
                  rfl
                refine pure_ (i := 4) (N := some 36) (v := ?_) (a' := ?_) #[true, false, true, true, true, false, false, false, false, false] rfl rfl (any_of HT_.out (by kernel_rfl)) (fun _ _ _ h => h) (Or.inl ⟨by rfl, ?_⟩) ?_ ?_
                rotate_left
                · intro w'
                  go_simp
                  with_reducible rfl
                rotate_left
                · simp only [Act.put, List.setIfInBounds_toArray, List.set_cons_zero, List.set_cons_succ, i64_w, i32_w]
                  rfl
                refine take_ (i := 1) (N := some 33) (v := ?_) (a' := ?_) #[true, true, true, true, true, false, false, false, false, false] rfl rfl (take_ofW HT_.out HW_.out (by kernel_rfl)) (fun _ _ _ h => h) (Or.inl ⟨by rfl, ?_⟩) hHeld ?_ ?_
                rotate_left
                · rintro w' ⟨s0, s1, s2, s3, s4⟩
                  go_simp
                  with_reducible rfl
                rotate_left
                · simp only [Act.put, List.setIfInBounds_toArray, List.set_cons_zero, List.set_cons_succ, i64_w, i32_w]
                  rfl
                refine one_ (i := 5) (N := some 37) #[true, true, true, true, true, true, false, false, false, false] rfl rfl (one_of HT_.out (by kernel_rfl)) (by decide) (fun K hK => ?_)
                refine goes_ Try.func112 (by kernel_rfl) rfl #[.pointer (some ⟨g, 0, none⟩), .int .i64 (wrap64 (a1 - 1))] (by rfl) rfl rfl (by (try simp only [List.map_toArray, List.map_cons, List.map_nil]); first | done | rfl | (simp only [List.length_drop, List.length_take]; rfl)) ?_
                with_reducible refine (ih k2 (by have := HJ2.out; have := HK2.out; omega) g s0_0 x1001_2 (wrap64 (a1 - 1)) t141 t142 t143 t144 t147 t150 w0 _ ?side1 ?side2 A38.out).mono ?_
                (case side1 => repeat (first | (with_reducible first | exact HI0.out | apply IsS104.alloc | apply IsS104.drewN | apply IsS104.drew | apply IsS104.set_1 | refine IsS104.far ?_ NB0_114.out _ | refine IsS104.far ?_ NB0_138.out _) | exact HI0.out))
                (case side2 => repeat (first | (with_reducible first | exact HB.out | apply below_alloc | apply pw_below_drewN | apply below_drew1 | refine below_set ?_ (IsS104.ge HI0.out) | refine below_set ?_ GE114.out | refine below_set ?_ GE138.out) | exact HB.out))
                rintro e w41 ⟨v145, v148, rfl, ho0, ho1, hi, hb, hk⟩
                refine ⟨_, rfl, ?_⟩
                have n0_ := Aside0.mk (Kd.R_mono (Kd.R_told (Kd.R_told (Kd.R_oldK (IsS104.apart (show IsS104 w0 _ g s0_0 x1001_2 from by repeat (first | (with_reducible first | exact HI0.out | apply IsS104.alloc | apply IsS104.drewN | apply IsS104.drew | apply IsS104.set_1 | refine IsS104.far ?_ NB0_114.out _ | refine IsS104.far ?_ NB0_138.out _) | exact HI0.out)) (by (with_reducible repeat (first | apply Kd.R_alloc | apply Kd.R_drewN | apply Kd.R_drew)); exact HO_139004.out) (by decide)) hk) (Kd.R_base ho0)) (Kd.R_base ho1)) (fun _ h_ => h_.1))
                have n1_ := Aside0.mk (KeepBut.blk hk (g' := gb114) (o := .cells #[.int .i64 0, .string (⟨#[]⟩ : ByteArray), .int .i64 0, .slice none 0 0, .slice none 0 0] 31 (0, 0)) (by (with_reducible repeat (first | refine blk_drewN ?_ _ | refine blk_drew ?_ | refine blk_alloc ?_ _)); exact BK114.out) NB114_0.out (by simp))
                have n2_ := Aside0.mk (KeepBut.blk hk (g' := gb138) (o := .cells #[.int .i64 3, .string (⟨#[]⟩ : ByteArray), .int .i64 0, .slice none 0 0, u139004] 31 (0, 0)) (by (with_reducible repeat (first | refine blk_drewN ?_ _ | refine blk_drew ?_ | refine blk_alloc ?_ _)); exact BK138.out) NB138_0.out (by simp))
                have n3_ := Aside0.mk (Kd.R_lower ho0 (keep_size (w := w) (g := g) (row := none) (by repeat (first | (with_reducible first | exact HK.out | apply KeepBut.set_ | apply keep_drewN | apply keep_drew | apply keep_alloc | refine keep_far ?_ GW114.out _ | refine keep_far ?_ GW138.out _) | exact HK.out))))
                have n4_ := Aside0.mk (Kd.R_lower (Kd.R_newB (Kd.R_newB (Kd.R_new' ho1 (Kd.R_lt (by (with_reducible repeat (first | apply Kd.R_alloc | apply Kd.R_drewN | apply Kd.R_drew)); exact HO_139004.out))) (g := gb114) (o := .cells #[.int .i64 0, .string (⟨#[]⟩ : ByteArray), .int .i64 0, .slice none 0 0, .slice none 0 0] 31 (0, 0)) (by (with_reducible repeat (first | refine blk_drewN ?_ _ | refine blk_drew ?_ | refine blk_alloc ?_ _)); exact BK114.out)) (g := gb138) (o := .cells #[.int .i64 3, .string (⟨#[]⟩ : ByteArray), .int .i64 0, .slice none 0 0, u139004] 31 (0, 0)) (by (with_reducible repeat (first | refine blk_drewN ?_ _ | refine blk_drew ?_ | refine blk_alloc ?_ _)); exact BK138.out)) (keep_size (w := w) (g := g) (row := none) (by repeat (first | (with_reducible first | exact HK.out | apply KeepBut.set_ | apply keep_drewN | apply keep_drew | apply keep_alloc | refine keep_far ?_ GW114.out _ | refine keep_far ?_ GW138.out _) | exact HK.out))))
                have n5_ := Aside0.mk (KeepBut.trans (by repeat (first | (with_reducible first | exact HK.out | apply KeepBut.set_ | apply keep_drewN | apply keep_drew | apply keep_alloc | refine keep_far ?_ GW114.out _ | refine keep_far ?_ GW138.out _) | exact HK.out)) hk (.inl rfl))
                have n6_ := Aside0.mk (hb)
                have n7_ := Aside0.mk (hi)
                clear HO_139004
                clear BK114
                clear BK138
                clear HK
                clear HB
                clear HI0
                have HO_139004 := n0_
                have BK114 := n1_
                have BK138 := n2_
                have HO146 := n3_
                have HO149 := n4_
                have HK := n5_
                have HB := n6_
                have HI0 := n7_
                clear n0_ n1_ n2_ n3_ n4_ n5_ n6_ n7_
                (try clear hb)
                (try clear hb2)
                (try clear hk)
                (try clear hi)
                (try clear ho0)
                (try clear ho1)
                obtain ⟨Ao43, co43, eo43⟩ := Kd.R_slice HO146.out
                (first | subst eo43 | (injection eo43 with f1_ f2_ f3_; have f4_ := f1_.symm; have f5_ := f3_.symm; clear f1_ f2_ f3_; subst f4_; subst f5_))
                obtain ⟨Ao44, co44, eo44⟩ := Kd.R_slice HO149.out
                (first | subst eo44 | (injection eo44 with f1_ f2_ f3_; have f4_ := f1_.symm; have f5_ := f3_.symm; clear f1_ f2_ f3_; subst f4_; subst f5_))
                refine hK.out _ _ ⟨(blk_cell BK138.out 0).trans rfl, (blk_cell BK138.out 1).trans rfl, (blk_cell BK138.out 2).trans rfl, (blk_cell BK138.out 3).trans rfl, (blk_cell BK138.out 4).trans rfl⟩ (fun hHeld => ?_)
                clear hK K
                refine norm_ (a' := ?_) ?_ ?_
                rotate_left
                · show Act.put _ (some 37) _ = _
                  simp only [Act.put, List.setIfInBounds_toArray, List.set_cons_zero, List.set_cons_succ, i64_w, i32_w]
                  rfl
                refine one_ (i := 6) (N := some 38) #[true, true, true, true, true, true, true, false, false, false] rfl rfl (one_of HT_.out (by kernel_rfl)) (by decide) (fun K hK => ?_)
                refine value_ (w1 := ?_) (v := ?_) (by rfl) rfl ?_ ?_
                rotate_left 2
                · go_simp
                  constructor
                  · rfl
                  · rfl
                refine hK.out _ _ ⟨(blk_cell (blk_alloc BK138.out _) 0).trans rfl, (blk_cell (blk_alloc BK138.out _) 1).trans rfl, (blk_cell (blk_alloc BK138.out _) 2).trans rfl, (blk_cell (blk_alloc BK138.out _) 3).trans rfl, (blk_cell (blk_alloc BK138.out _) 4).trans rfl⟩ (fun hHeld => ?_)
                clear hK K
                refine norm_ (a' := ?_) ?_ ?_
                rotate_left
                · show Act.put _ (some 38) _ = _
                  simp only [Act.put, List.setIfInBounds_toArray, List.set_cons_zero, List.set_cons_succ, i64_w, i32_w]
                  rfl
                refine one_ (i := 7) (N := some 39) #[true, true, true, true, true, true, true, true, false, false] rfl rfl (one_of HT_.out (by kernel_rfl)) (by decide) (fun K hK => ?_)
                refine Kd.R_append_step k31 w.heap.size (by rfl) (.tmp 33) (.tmp 38) 29 31 (.agg #[(.int .i64 0), (.string ⟨#[]⟩), (.int .i64 0), (.slice none 0 0), (.slice none 0 0)]) 80 rfl Try.underlying29 info31 rfl (by decide) (by omega) u139004 x139004_2 (⟨t141, t142, t143, t144, t147⟩ : S31) [.int .i64 t141, .string t142, .int .i64 t143, .slice Ao43 t144.length co43, .slice Ao44 t147.length co44] (fun k_ => k_ ≠ gb114 ∧ k_ ≠ gb138) (fun k_ => ((fun k_ => k_ ≠ gb114 ∧ k_ ≠ gb138)) k_ ∧ some k_ ≠ (u139004 : Value).ownBlock) rfl rfl ?aP (fun _ hk => hk) ?aF ?aO (Below.refl _ _) ?aS ?aL ?_
                (case aP => exact k31_mkM _ _ _ (⟨t141, t142, t143, t144, t147⟩ : S31) (Kd.R_mono (Kd.R_types (Kd.R_types (Kd.R_apart' (HO146.out) (Kd.R_typed HO_139004.out) (by decide)) BK114.out (by decide)) BK138.out (by decide)) (fun k_ hk => ⟨⟨hk.1.2, hk.2⟩, hk.1.1.2⟩)) (Kd.R_mono (HO149.out) (fun k_ hk => ⟨⟨hk.1.2, hk.2⟩, hk.1.1.2⟩)))
                (case aF => exact (fun k_ hk => ⟨Kd.freshB (g := gb114) (o := .cells #[.int .i64 0, .string (⟨#[]⟩ : ByteArray), .int .i64 0, .slice none 0 0, .slice none 0 0] 31 (0, 0)) (by (with_reducible repeat (first | refine blk_drewN ?_ _ | refine blk_drew ?_ | refine blk_alloc ?_ _)); exact BK114.out) k_ hk, Kd.freshB (g := gb138) (o := .cells #[.int .i64 3, .string (⟨#[]⟩ : ByteArray), .int .i64 0, .slice none 0 0, u139004] 31 (0, 0)) (by (with_reducible repeat (first | refine blk_drewN ?_ _ | refine blk_drew ?_ | refine blk_alloc ?_ _)); exact BK138.out) k_ hk⟩))
                (case aO => exact (by (with_reducible repeat (first | apply Kd.R_alloc | apply Kd.R_drewN | apply Kd.R_drew)); exact Kd.R_mono HO_139004.out (fun _ hk => ⟨hk.1.1.1, hk.1.1.2⟩)))
                (case aS => exact (keep_size (w := w) (g := g) (row := none) (by repeat (first | (with_reducible first | exact HK.out | apply KeepBut.set_ | apply keep_drewN | apply keep_drew | apply keep_alloc | refine keep_far ?_ GW114.out _ | refine keep_far ?_ GW138.out _) | exact HK.out))))
                (case aL => have := LMc39.out; omega)
                intro v152 w42 ho hb hg hat
                rw [← Ny151.out] at ho
                have n0_ := Aside0.mk (blk_grown (g := gb114) (o := .cells #[.int .i64 0, .string (⟨#[]⟩ : ByteArray), .int .i64 0, .slice none 0 0, .slice none 0 0] 31 (0, 0)) (by (with_reducible repeat (first | refine blk_drewN ?_ _ | refine blk_drew ?_ | refine blk_alloc ?_ _)); exact BK114.out) hg (Kd.R_away HO_139004.out (fun _ hk => hk.1.1.1)))
                have n1_ := Aside0.mk (blk_grown (g := gb138) (o := .cells #[.int .i64 3, .string (⟨#[]⟩ : ByteArray), .int .i64 0, .slice none 0 0, u139004] 31 (0, 0)) (by (with_reducible repeat (first | refine blk_drewN ?_ _ | refine blk_drew ?_ | refine blk_alloc ?_ _)); exact BK138.out) hg (Kd.R_away HO_139004.out (fun _ hk => hk.1.1.2)))
                have n2_ := Aside0.mk (IsS104.grown (by repeat (first | (with_reducible first | exact HI0.out | apply IsS104.alloc | apply IsS104.drewN | apply IsS104.drew | apply IsS104.set_1 | refine IsS104.far ?_ NB0_114.out _ | refine IsS104.far ?_ NB0_138.out _) | exact HI0.out)) hg (IsS104.own_ne HI0.out HO_139004.out (by decide)))
                have n3_ := Aside0.mk (below_weaken (by repeat (first | (with_reducible first | exact HB.out | apply below_alloc | apply pw_below_drewN | apply below_drew1 | refine below_set ?_ (IsS104.ge HI0.out) | refine below_set ?_ GE114.out | refine below_set ?_ GE138.out) | exact HB.out)) HL.out hb)
                have n4_ := Aside0.mk (KeepBut.trans (by repeat (first | (with_reducible first | exact HK.out | apply KeepBut.set_ | apply keep_drewN | apply keep_drew | apply keep_alloc | refine keep_far ?_ GW114.out _ | refine keep_far ?_ GW138.out _) | exact HK.out)) (KeepBut.of_grown hg g) (Kd.R_base2 HO_139004.out))
                have n5_ := Aside0.mk (ho)
                clear BK114
                clear BK138
                clear HI0
                clear HB
                clear HK
                clear HO_139004
                clear HO146
                clear HO149
                have BK114 := n0_
                have BK138 := n1_
                have HI0 := n2_
                have HB := n3_
                have HK := n4_
                have HO153 := n5_
                clear n0_ n1_ n2_ n3_ n4_ n5_
                clear ho hb hg hat
                obtain ⟨Ao45, co45, eo45⟩ := Kd.R_slice HO153.out
                (first | subst eo45 | (injection eo45 with f1_ f2_ f3_; have f4_ := f1_.symm; have f5_ := f3_.symm; clear f1_ f2_ f3_; subst f4_; subst f5_))
                refine hK.out _ _ ⟨(blk_cell BK138.out 0).trans rfl, (blk_cell BK138.out 1).trans rfl, (blk_cell BK138.out 2).trans rfl, (blk_cell BK138.out 3).trans rfl, (blk_cell BK138.out 4).trans rfl⟩ (fun hHeld => ?_)
                clear hK K
                refine norm_ (a' := ?_) ?_ ?_
                rotate_left
                · show Act.put _ (some 39) _ = _
                  simp only [Act.put, List.setIfInBounds_toArray, List.set_cons_zero, List.set_cons_succ, i64_w, i32_w]
                  rfl
                refine pure_ (i := 8) (N := some 40) (v := ?_) (a' := ?_) #[true, true, true, true, true, true, true, true, true, false] rfl rfl (any_of HT_.out (by kernel_rfl)) (fun _ _ _ h => h) (Or.inl ⟨by rfl, ?_⟩) ?_ ?_
                rotate_left
                · intro w'
                  go_simp
                  with_reducible rfl
                rotate_left
                · simp only [Act.put, List.setIfInBounds_toArray, List.set_cons_zero, List.set_cons_succ, i64_w, i32_w]
                  rfl
                refine last_ (i := 9) (N := none) #[true, true, true, true, true, true, true, true, true, true] rfl rfl (one_of HT_.out (by kernel_rfl)) (by decide) (fun K hK => ?_)
                have hs46 : w42.cell? ⟨gb138, 4, none⟩ = some (u139004) := (blk_cell BK138.out 4).trans rfl
                have hfs46 := blk_frozen BK138.out 4
                have hns46_0 := NB114_138.out
                have hms46_0 := NB138_114.out
                refine skip_ (w1 := ?_) (by rfl) rfl ?_ ?_
                rotate_left
                · go_simp
                  rfl
                refine hK.out _ _ ?_
                clear hK K
                refine done_ (done_of HT_.out (by kernel_rfl)) ?_
                try go_wp2
                go_roundg k2
                case measure => have := HJ2.out; have := HK2.out; omega
                case rel => exact ⟨(wrap64 (x6_2 - 1)), (t150), (y151), (.slice Ao45 y151.length co45), (by first | rfl | (simp; done) | (simp [*]; done)), H', ⟨by have := HJ2.out; have := HK2.out; omega⟩, ⟨by (with_reducible repeat (first | apply Kd.R_alloc | apply Kd.R_drewN | apply Kd.R_drew)); exact Kd.R_mono (Kd.R_far (p := ⟨gb138, 4, none⟩) (Kd.R_mono HO153.out (fun k_ hk => (⟨hk, hk.2⟩ : _ ∧ k_ ≠ gb138))) (fun _ hk => hk.2) (.slice Ao45 y151.length co45)) (fun _ hk => ⟨hk.1.1, hk.1.2⟩)⟩, ⟨by (with_reducible repeat (first | refine blk_drewN ?_ _ | refine blk_drew ?_ | refine blk_alloc ?_ _)); refine blk_far ?_ NB114_138.out _; (with_reducible repeat (first | refine blk_drewN ?_ _ | refine blk_drew ?_ | refine blk_alloc ?_ _)); exact BK114.out⟩, ⟨by (with_reducible repeat (first | refine blk_drewN ?_ _ | refine blk_drew ?_ | refine blk_alloc ?_ _)); refine blk_put (cs := #[.int .i64 3, .string (⟨#[]⟩ : ByteArray), .int .i64 0, .slice none 0 0, u139004]) ?_ 4 _ rfl; (with_reducible repeat (first | refine blk_drewN ?_ _ | refine blk_drew ?_ | refine blk_alloc ?_ _)); exact BK138.out⟩, ⟨by repeat (first | (with_reducible first | exact HI0.out | apply IsS104.alloc | apply IsS104.drewN | apply IsS104.drew | apply IsS104.set_1 | refine IsS104.far ?_ NB0_114.out _ | refine IsS104.far ?_ NB0_138.out _) | exact HI0.out)⟩, ⟨by repeat (first | (with_reducible first | exact HK.out | apply KeepBut.set_ | apply keep_drewN | apply keep_drew | apply keep_alloc | refine keep_far ?_ GW114.out _ | refine keep_far ?_ GW138.out _) | exact HK.out)⟩, ⟨by repeat (first | (with_reducible first | exact HB.out | apply below_alloc | apply pw_below_drewN | apply below_drew1 | refine below_set ?_ (IsS104.ge HI0.out) | refine below_set ?_ GE114.out | refine below_set ?_ GE138.out) | exact HB.out)⟩⟩
              · rw [if_neg c39] at H
                exact absurd H (by simp)
            · rw [if_neg c37] at H
              have c37b0 : decide (0 < x6_2) = false := decide_eq_false c37
              clear c37
              simp only [Option.some.injEq, Prod.mk.injEq] at H
              obtain ⟨rfl, rfl, rfl, rfl, rfl, rfl⟩ := H
              have hnb47 := NB138_114.out
              have hnc47 := NB114_138.out
              have hnb48 := NB138_0.out
              have hnc48 := NB0_138.out
              have hcz49_0 : wr.cell? ⟨gb138, 0, none⟩ = some (.int .i64 3) := (blk_cell BK138.out 0).trans rfl
              have hcz49_1 : wr.cell? ⟨gb138, 1, none⟩ = some (.string (⟨#[]⟩ : ByteArray)) := (blk_cell BK138.out 1).trans rfl
              have hcz49_2 : wr.cell? ⟨gb138, 2, none⟩ = some (.int .i64 0) := (blk_cell BK138.out 2).trans rfl
              have hcz49_3 : wr.cell? ⟨gb138, 3, none⟩ = some (.slice none 0 0) := (blk_cell BK138.out 3).trans rfl
              have hcz49_4 : wr.cell? ⟨gb138, 4, none⟩ = some (u139004) := (blk_cell BK138.out 4).trans rfl
              have hfz49_0 := blk_frozen BK138.out 0
              have hfz49_1 := blk_frozen BK138.out 1
              have hfz49_2 := blk_frozen BK138.out 2
              have hfz49_3 := blk_frozen BK138.out 3
              have hfz49_4 := blk_frozen BK138.out 4
              have hnb50 := NB114_0.out
              have hnc50 := NB0_114.out
              have hcz51_0 : wr.cell? ⟨gb114, 0, none⟩ = some (.int .i64 0) := (blk_cell BK114.out 0).trans rfl
              have hcz51_1 : wr.cell? ⟨gb114, 1, none⟩ = some (.string (⟨#[]⟩ : ByteArray)) := (blk_cell BK114.out 1).trans rfl
              have hcz51_2 : wr.cell? ⟨gb114, 2, none⟩ = some (.int .i64 0) := (blk_cell BK114.out 2).trans rfl
              have hcz51_3 : wr.cell? ⟨gb114, 3, none⟩ = some (.slice none 0 0) := (blk_cell BK114.out 3).trans rfl
              have hcz51_4 : wr.cell? ⟨gb114, 4, none⟩ = some (.slice none 0 0) := (blk_cell BK114.out 4).trans rfl
              have hfz51_0 := blk_frozen BK114.out 0
              have hfz51_1 := blk_frozen BK114.out 1
              have hfz51_2 := blk_frozen BK114.out 2
              have hfz51_3 := blk_frozen BK114.out 3
              have hfz51_4 := blk_frozen BK114.out 4
              obtain ⟨Ao52, co52, eo52⟩ := Kd.R_slice HO_139004.out
              subst eo52
              go_wp2
              refine bodyPost_ret (results_cell_row rfl _ _ gb114 31 #[.int .i64 3, .string (⟨#[]⟩ : ByteArray), .int .i64 0, .slice none 0 0, .slice Ao52 x139004_2.length co52] (0, 0) _ rfl (by (with_reducible repeat (first | refine blk_drewN ?_ _ | refine blk_drew ?_ | refine blk_alloc ?_ _)); refine blk_put (cs := #[.int .i64 3, .string (⟨#[]⟩ : ByteArray), .int .i64 0, .slice none 0 0, .slice none 0 0]) ?_ 4 _ rfl; (with_reducible repeat (first | refine blk_drewN ?_ _ | refine blk_drew ?_ | refine blk_alloc ?_ _)); refine blk_put (cs := #[.int .i64 3, .string (⟨#[]⟩ : ByteArray), .int .i64 0, .slice none 0 0, .slice none 0 0]) ?_ 3 _ rfl; (with_reducible repeat (first | refine blk_drewN ?_ _ | refine blk_drew ?_ | refine blk_alloc ?_ _)); refine blk_put (cs := #[.int .i64 3, .string (⟨#[]⟩ : ByteArray), .int .i64 0, .slice none 0 0, .slice none 0 0]) ?_ 2 _ rfl; (with_reducible repeat (first | refine blk_drewN ?_ _ | refine blk_drew ?_ | refine blk_alloc ?_ _)); refine blk_put (cs := #[.int .i64 3, .string (⟨#[]⟩ : ByteArray), .int .i64 0, .slice none 0 0, .slice none 0 0]) ?_ 1 _ rfl; (with_reducible repeat (first | refine blk_drewN ?_ _ | refine blk_drew ?_ | refine blk_alloc ?_ _)); refine blk_put (cs := #[.int .i64 0, .string (⟨#[]⟩ : ByteArray), .int .i64 0, .slice none 0 0, .slice none 0 0]) ?_ 0 _ rfl; (with_reducible repeat (first | refine blk_drewN ?_ _ | refine blk_drew ?_ | refine blk_alloc ?_ _)); exact BK114.out) Try.underlying31 rfl (by kernel_rfl)) rfl ?_
              exact ⟨_, _, by first | rfl | (simp [errW_none, errW_some] <;> rfl) | (simp [*, errW_none, errW_some] <;> rfl), by first | exact Kd.R_nil _ _ _ _ _ | exact Kd.N_nil _ _ _ _ _ | exact Kd.V_nil _ _ _ _ _ | exact Kd.Q_nil _ _ _ _ _ | exact Kd.S_nil _ _ _ _ _, by (with_reducible repeat (first | apply Kd.R_alloc | apply Kd.R_drewN | apply Kd.R_drew)); exact Kd.R_mono (Kd.R_far (p := ⟨gb114, 4, none⟩) (Kd.R_far (p := ⟨gb114, 3, none⟩) (Kd.R_far (p := ⟨gb114, 2, none⟩) (Kd.R_far (p := ⟨gb114, 1, none⟩) (Kd.R_far (p := ⟨gb114, 0, none⟩) (Kd.R_mono HO_139004.out (fun k_ hk => (⟨hk, hk.1⟩ : _ ∧ k_ ≠ gb114))) (fun _ hk => hk.2) (.int .i64 3)) (fun _ hk => hk.2) (.string (⟨#[]⟩ : ByteArray))) (fun _ hk => hk.2) (.int .i64 0)) (fun _ hk => hk.2) (.slice none 0 0)) (fun _ hk => hk.2) (.slice Ao52 x139004_2.length co52)) (fun _ hk => (by simp [Value.ownBlock])), by repeat (first | (with_reducible first | exact HI0.out | apply IsS104.alloc | apply IsS104.drewN | apply IsS104.drew | apply IsS104.set_1 | refine IsS104.far ?_ NB0_114.out _ | refine IsS104.far ?_ NB0_138.out _) | exact HI0.out), by repeat (first | (with_reducible first | exact HB.out | apply below_alloc | apply pw_below_drewN | apply below_drew1 | refine below_set ?_ (IsS104.ge HI0.out) | refine below_set ?_ GE114.out | refine below_set ?_ GE138.out) | exact HB.out), by repeat (first | (with_reducible first | exact HK.out | apply KeepBut.set_ | apply keep_drewN | apply keep_drew | apply keep_alloc | refine keep_far ?_ GW114.out _ | refine keep_far ?_ GW138.out _) | exact HK.out)⟩

/-! ### spec_l1Letter: function 150 -/
def spec_l1Letter.f (a0 : Int) (a1 : Bool) : Option (Bool) := if a0 ≥ 97 then (if a0 ≤ 122 then (some true) else (if a0 = 42 then (some true) else (if a0 = 63 then (some true) else (if a0 = 61 then (some true) else (if a0 = 43 then (some true) else (if a0 = 60 then (some true) else (if a1 = true then (some false) else (if a0 ≥ 48 then (if a0 ≤ 57 then (some true) else (some (a0 == 45))) else (some (a0 == 45)))))))))) else (if a0 = 42 then (some true) else (if a0 = 63 then (some true) else (if a0 = 61 then (some true) else (if a0 = 43 then (some true) else (if a0 = 60 then (some true) else (if a1 = true then (some false) else (if a0 ≥ 48 then (if a0 ≤ 57 then (some true) else (some (a0 == 45))) else (some (a0 == 45)))))))))
set_option maxHeartbeats 8000000 in
set_option maxRecDepth 100000 in
theorem spec_l1Letter.calls (a0 : Int) (a1 : Bool) (r : Bool) (w : World) (h : spec_l1Letter.f a0 a1 = some r) :
    Calls Try.prog 150 #[.int .u8 a0, .bool a1] w fun e w' => e = .returned (.bool r) ∧ Drawn0 w w' := by
  have H : (if a0 ≥ 97 then (if a0 ≤ 122 then (some true) else (if a0 = 42 then (some true) else (if a0 = 63 then (some true) else (if a0 = 61 then (some true) else (if a0 = 43 then (some true) else (if a0 = 60 then (some true) else (if a1 = true then (some false) else (if a0 ≥ 48 then (if a0 ≤ 57 then (some true) else (some (a0 == 45))) else (some (a0 == 45)))))))))) else (if a0 = 42 then (some true) else (if a0 = 63 then (some true) else (if a0 = 61 then (some true) else (if a0 = 43 then (some true) else (if a0 = 60 then (some true) else (if a1 = true then (some false) else (if a0 ≥ 48 then (if a0 ≤ 57 then (some true) else (some (a0 == 45))) else (some (a0 == 45)))))))))) = some r := h
  clear h
  by_cases c3 : a0 ≥ 97
  · rw [if_pos c3] at H
    have c3b0 : decide (97 ≤ a0) = true := decide_eq_true c3
    clear c3
    by_cases c4 : a0 ≤ 122
    · rw [if_pos c4] at H
      have c4b0 : decide (a0 ≤ 122) = true := decide_eq_true c4
      clear c4
      obtain rfl := Option.some.inj H
      go_enter Try.func150, Try.ntmps150
      go_wp2
      go_ret
      exact ⟨by first | rfl | (simp; done) | (simp [*]; done), by repeat (first | exact Drawn0.refl _ | apply Drawn0.step)⟩
    · rw [if_neg c4] at H
      have c4b0 : decide (a0 ≤ 122) = false := decide_eq_false c4
      clear c4
      by_cases c5 : a0 = 42
      · rw [if_pos c5] at H
        have c5b0 : (a0 == 42) = true := beq_iff_eq.mpr c5
        have c5b1 : (a0 != 42) = false := bne_eq_false_iff_eq.mpr c5
        clear c5
        obtain rfl := Option.some.inj H
        go_enter Try.func150, Try.ntmps150
        go_wp2
        go_ret
        exact ⟨by first | rfl | (simp; done) | (simp [*]; done), by repeat (first | exact Drawn0.refl _ | apply Drawn0.step)⟩
      · rw [if_neg c5] at H
        have c5b0 : (a0 == 42) = false := beq_eq_false_iff_ne.mpr c5
        have c5b1 : (a0 != 42) = true := bne_iff_ne.mpr c5
        by_cases c6 : a0 = 63
        · rw [if_pos c6] at H
          have c6b0 : (a0 == 63) = true := beq_iff_eq.mpr c6
          have c6b1 : (a0 != 63) = false := bne_eq_false_iff_eq.mpr c6
          clear c6
          obtain rfl := Option.some.inj H
          go_enter Try.func150, Try.ntmps150
          go_wp2
          go_ret
          exact ⟨by first | rfl | (simp; done) | (simp [*]; done), by repeat (first | exact Drawn0.refl _ | apply Drawn0.step)⟩
        · rw [if_neg c6] at H
          have c6b0 : (a0 == 63) = false := beq_eq_false_iff_ne.mpr c6
          have c6b1 : (a0 != 63) = true := bne_iff_ne.mpr c6
          by_cases c7 : a0 = 61
          · rw [if_pos c7] at H
            have c7b0 : (a0 == 61) = true := beq_iff_eq.mpr c7
            have c7b1 : (a0 != 61) = false := bne_eq_false_iff_eq.mpr c7
            clear c7
            obtain rfl := Option.some.inj H
            go_enter Try.func150, Try.ntmps150
            go_wp2
            go_ret
            exact ⟨by first | rfl | (simp; done) | (simp [*]; done), by repeat (first | exact Drawn0.refl _ | apply Drawn0.step)⟩
          · rw [if_neg c7] at H
            have c7b0 : (a0 == 61) = false := beq_eq_false_iff_ne.mpr c7
            have c7b1 : (a0 != 61) = true := bne_iff_ne.mpr c7
            by_cases c8 : a0 = 43
            · rw [if_pos c8] at H
              have c8b0 : (a0 == 43) = true := beq_iff_eq.mpr c8
              have c8b1 : (a0 != 43) = false := bne_eq_false_iff_eq.mpr c8
              clear c8
              obtain rfl := Option.some.inj H
              go_enter Try.func150, Try.ntmps150
              go_wp2
              go_ret
              exact ⟨by first | rfl | (simp; done) | (simp [*]; done), by repeat (first | exact Drawn0.refl _ | apply Drawn0.step)⟩
            · rw [if_neg c8] at H
              have c8b0 : (a0 == 43) = false := beq_eq_false_iff_ne.mpr c8
              have c8b1 : (a0 != 43) = true := bne_iff_ne.mpr c8
              by_cases c9 : a0 = 60
              · rw [if_pos c9] at H
                have c9b0 : (a0 == 60) = true := beq_iff_eq.mpr c9
                have c9b1 : (a0 != 60) = false := bne_eq_false_iff_eq.mpr c9
                clear c9
                obtain rfl := Option.some.inj H
                go_enter Try.func150, Try.ntmps150
                go_wp2
                go_ret
                exact ⟨by first | rfl | (simp; done) | (simp [*]; done), by repeat (first | exact Drawn0.refl _ | apply Drawn0.step)⟩
              · rw [if_neg c9] at H
                have c9b0 : (a0 == 60) = false := beq_eq_false_iff_ne.mpr c9
                have c9b1 : (a0 != 60) = true := bne_iff_ne.mpr c9
                by_cases c10 : a1 = true
                · subst c10
                  have H1 : (some false) = some r := by rw [if_pos rfl] at H; exact H
                  clear H
                  have H := H1
                  clear H1
                  obtain rfl := Option.some.inj H
                  go_enter Try.func150, Try.ntmps150
                  go_wp2
                  go_ret
                  exact ⟨by first | rfl | (simp; done) | (simp [*]; done), by repeat (first | exact Drawn0.refl _ | apply Drawn0.step)⟩
                · replace c10 := Bool.eq_false_iff.mpr c10
                  subst c10
                  have H1 : (if a0 ≥ 48 then (if a0 ≤ 57 then (some true) else (some (a0 == 45))) else (some (a0 == 45))) = some r := by rw [if_neg (show ¬ (false = true) by decide)] at H; exact H
                  clear H
                  have H := H1
                  clear H1
                  by_cases c11 : a0 ≥ 48
                  · rw [if_pos c11] at H
                    have c11b0 : decide (48 ≤ a0) = true := decide_eq_true c11
                    clear c11
                    by_cases c12 : a0 ≤ 57
                    · rw [if_pos c12] at H
                      have c12b0 : decide (a0 ≤ 57) = true := decide_eq_true c12
                      clear c12
                      obtain rfl := Option.some.inj H
                      go_enter Try.func150, Try.ntmps150
                      go_wp2
                      go_ret
                      exact ⟨by first | rfl | (simp; done) | (simp [*]; done), by repeat (first | exact Drawn0.refl _ | apply Drawn0.step)⟩
                    · rw [if_neg c12] at H
                      have c12b0 : decide (a0 ≤ 57) = false := decide_eq_false c12
                      clear c12
                      obtain rfl := Option.some.inj H
                      go_enter Try.func150, Try.ntmps150
                      go_wp2
                      go_ret
                      exact ⟨by first | rfl | (simp; done) | (simp [*]; done), by repeat (first | exact Drawn0.refl _ | apply Drawn0.step)⟩
                  · rw [if_neg c11] at H
                    have c11b0 : decide (48 ≤ a0) = false := decide_eq_false c11
                    clear c11
                    obtain rfl := Option.some.inj H
                    go_enter Try.func150, Try.ntmps150
                    go_wp2
                    go_ret
                    exact ⟨by first | rfl | (simp; done) | (simp [*]; done), by repeat (first | exact Drawn0.refl _ | apply Drawn0.step)⟩
  · rw [if_neg c3] at H
    have c3b0 : decide (97 ≤ a0) = false := decide_eq_false c3
    clear c3
    by_cases c13 : a0 = 42
    · rw [if_pos c13] at H
      have c13b0 : (a0 == 42) = true := beq_iff_eq.mpr c13
      have c13b1 : (a0 != 42) = false := bne_eq_false_iff_eq.mpr c13
      clear c13
      obtain rfl := Option.some.inj H
      go_enter Try.func150, Try.ntmps150
      go_wp2
      go_ret
      exact ⟨by first | rfl | (simp; done) | (simp [*]; done), by repeat (first | exact Drawn0.refl _ | apply Drawn0.step)⟩
    · rw [if_neg c13] at H
      have c13b0 : (a0 == 42) = false := beq_eq_false_iff_ne.mpr c13
      have c13b1 : (a0 != 42) = true := bne_iff_ne.mpr c13
      by_cases c14 : a0 = 63
      · rw [if_pos c14] at H
        have c14b0 : (a0 == 63) = true := beq_iff_eq.mpr c14
        have c14b1 : (a0 != 63) = false := bne_eq_false_iff_eq.mpr c14
        clear c14
        obtain rfl := Option.some.inj H
        go_enter Try.func150, Try.ntmps150
        go_wp2
        go_ret
        exact ⟨by first | rfl | (simp; done) | (simp [*]; done), by repeat (first | exact Drawn0.refl _ | apply Drawn0.step)⟩
      · rw [if_neg c14] at H
        have c14b0 : (a0 == 63) = false := beq_eq_false_iff_ne.mpr c14
        have c14b1 : (a0 != 63) = true := bne_iff_ne.mpr c14
        by_cases c15 : a0 = 61
        · rw [if_pos c15] at H
          have c15b0 : (a0 == 61) = true := beq_iff_eq.mpr c15
          have c15b1 : (a0 != 61) = false := bne_eq_false_iff_eq.mpr c15
          clear c15
          obtain rfl := Option.some.inj H
          go_enter Try.func150, Try.ntmps150
          go_wp2
          go_ret
          exact ⟨by first | rfl | (simp; done) | (simp [*]; done), by repeat (first | exact Drawn0.refl _ | apply Drawn0.step)⟩
        · rw [if_neg c15] at H
          have c15b0 : (a0 == 61) = false := beq_eq_false_iff_ne.mpr c15
          have c15b1 : (a0 != 61) = true := bne_iff_ne.mpr c15
          by_cases c16 : a0 = 43
          · rw [if_pos c16] at H
            have c16b0 : (a0 == 43) = true := beq_iff_eq.mpr c16
            have c16b1 : (a0 != 43) = false := bne_eq_false_iff_eq.mpr c16
            clear c16
            obtain rfl := Option.some.inj H
            go_enter Try.func150, Try.ntmps150
            go_wp2
            go_ret
            exact ⟨by first | rfl | (simp; done) | (simp [*]; done), by repeat (first | exact Drawn0.refl _ | apply Drawn0.step)⟩
          · rw [if_neg c16] at H
            have c16b0 : (a0 == 43) = false := beq_eq_false_iff_ne.mpr c16
            have c16b1 : (a0 != 43) = true := bne_iff_ne.mpr c16
            by_cases c17 : a0 = 60
            · rw [if_pos c17] at H
              have c17b0 : (a0 == 60) = true := beq_iff_eq.mpr c17
              have c17b1 : (a0 != 60) = false := bne_eq_false_iff_eq.mpr c17
              clear c17
              obtain rfl := Option.some.inj H
              go_enter Try.func150, Try.ntmps150
              go_wp2
              go_ret
              exact ⟨by first | rfl | (simp; done) | (simp [*]; done), by repeat (first | exact Drawn0.refl _ | apply Drawn0.step)⟩
            · rw [if_neg c17] at H
              have c17b0 : (a0 == 60) = false := beq_eq_false_iff_ne.mpr c17
              have c17b1 : (a0 != 60) = true := bne_iff_ne.mpr c17
              by_cases c18 : a1 = true
              · subst c18
                have H1 : (some false) = some r := by rw [if_pos rfl] at H; exact H
                clear H
                have H := H1
                clear H1
                obtain rfl := Option.some.inj H
                go_enter Try.func150, Try.ntmps150
                go_wp2
                go_ret
                exact ⟨by first | rfl | (simp; done) | (simp [*]; done), by repeat (first | exact Drawn0.refl _ | apply Drawn0.step)⟩
              · replace c18 := Bool.eq_false_iff.mpr c18
                subst c18
                have H1 : (if a0 ≥ 48 then (if a0 ≤ 57 then (some true) else (some (a0 == 45))) else (some (a0 == 45))) = some r := by rw [if_neg (show ¬ (false = true) by decide)] at H; exact H
                clear H
                have H := H1
                clear H1
                by_cases c19 : a0 ≥ 48
                · rw [if_pos c19] at H
                  have c19b0 : decide (48 ≤ a0) = true := decide_eq_true c19
                  clear c19
                  by_cases c20 : a0 ≤ 57
                  · rw [if_pos c20] at H
                    have c20b0 : decide (a0 ≤ 57) = true := decide_eq_true c20
                    clear c20
                    obtain rfl := Option.some.inj H
                    go_enter Try.func150, Try.ntmps150
                    go_wp2
                    go_ret
                    exact ⟨by first | rfl | (simp; done) | (simp [*]; done), by repeat (first | exact Drawn0.refl _ | apply Drawn0.step)⟩
                  · rw [if_neg c20] at H
                    have c20b0 : decide (a0 ≤ 57) = false := decide_eq_false c20
                    clear c20
                    obtain rfl := Option.some.inj H
                    go_enter Try.func150, Try.ntmps150
                    go_wp2
                    go_ret
                    exact ⟨by first | rfl | (simp; done) | (simp [*]; done), by repeat (first | exact Drawn0.refl _ | apply Drawn0.step)⟩
                · rw [if_neg c19] at H
                  have c19b0 : decide (48 ≤ a0) = false := decide_eq_false c19
                  clear c19
                  obtain rfl := Option.some.inj H
                  go_enter Try.func150, Try.ntmps150
                  go_wp2
                  go_ret
                  exact ⟨by first | rfl | (simp; done) | (simp [*]; done), by repeat (first | exact Drawn0.refl _ | apply Drawn0.step)⟩

end Go.Proofs.Yteonncnhhccgeaa.Q
end
section
namespace Go.Proofs.Yteonncnhhccgeaa
open Go.RowKit Go.Proofs.YteonncnhhccgeaaW.PrintWords Go.Proofs.Yteonncnhhccgeaa.Q
set_option linter.unusedVariables false
theorem ev_name (a : ByteArray) : spec_l1Name.f a = some ((1 : Int), a, (0 : Int), ([] : List Int), ([] : List Fm)) := rfl
theorem ev_some {s : List Int} (hs : Bts s) : ∀ d : Nat, d ≤ 4 → ∀ p : Nat, p + Bn d ≤ 900000 →
    ∃ (x : Fm) (q : Nat), q ≤ p + Bn d ∧ x.tot ≤ Bn d ∧ Ev (fun k => spec_l1Some.f k s (p : Int) (d : Int)) (x.f0, x.f1, x.f2, x.f3, x.f4, (q : Int)) := by
  have leaf : ∀ (d : Nat) (p : Nat), p ≤ 900002 → ∃ (x : Fm) (q : Nat), q ≤ p + 2 ∧ x.tot ≤ 13 ∧ Ev (fun k => spec_l1Some.j0 k (d : Int) true s (p : Int)) (x.f0, x.f1, x.f2, x.f3, x.f4, (q : Int)) := by
    intro d p hp
    obtain ⟨v, hv, e1⟩ := ev_pick hs p (by omega) 4 (by omega)
    by_cases h0 : v = 0
    · obtain ⟨n, hn, e2⟩ := ev_num hs (p + 1) (by omega) [0, 1, 2, 7, 42, 999] (by simp) (by simp)
      refine ⟨⟨2, ⟨#[]⟩, n, [], []⟩, p + 2, by omega, by simp [Fm.tot, totL, ByteArray.size], ?_⟩
      refine Ev.step (fun k => by rw [spec_l1Some.j0]) (Ev.pos rfl (Ev.bind e1 (Ev.pos h0 (Ev.bind e2 ?_))))
      exact Ev.now _
    · obtain ⟨n, hn, e2⟩ := ev_of hs (p + 1) (by omega) nms (by simp) (by simp)
      refine ⟨⟨1, n, 0, [], []⟩, p + 2, by omega, ?_, ?_⟩
      rotate_left
      · refine Ev.step (fun k => by rw [spec_l1Some.j0]) (Ev.pos rfl (Ev.bind e1 (Ev.neg h0 (Ev.bind e2 (Ev.bind (g := fun _ => _) (Ev.some (ev_name n)) ?_)))))
        exact Ev.now _
      · have := names_small n hn
        simp [Fm.tot, totL]; omega
  intro d
  induction d with
  | zero =>
    intro hd p hp
    obtain ⟨x, q, h1, h2, h3⟩ := leaf 0 p (by omega)
    refine ⟨x, q, by have : Bn 0 = 13 := rfl; omega, h2, Ev.step (fun k => by rw [spec_l1Some.f]) ?_⟩
    exact Ev.pos rfl h3
  | succ d ih =>
    intro hd p hp
    have hB := Bn_pos d
    have hBs : Bn (d + 1) = 13 + 3 * (Bn d + 1) := rfl
    have hB4 := Bn_le (d := d) (by omega)
    obtain ⟨v, hv, e1⟩ := ev_pick hs p (by omega) 3 (by omega)
    cases hz : (v == 0) with
    | true =>
      obtain ⟨x, q, h1, h2, h3⟩ := leaf (d + 1) (p + 1) (by omega)
      refine ⟨x, q, by have : Bn (d + 1) = 13 + 3 * (Bn d + 1) := rfl; omega, by have : Bn (d + 1) = 13 + 3 * (Bn d + 1) := rfl; omega, Ev.step (fun k => by rw [spec_l1Some.f]) (Ev.neg (by omega) (Ev.bind e1 ?_))⟩
      dsimp only
      rw [hz]
      exact h3
    | false =>
      obtain ⟨n, hn, e2⟩ := ev_pick hs (p + 1) (by omega) 4 (by omega)
      obtain ⟨m, rfl⟩ := Int.eq_ofNat_of_zero_le (hn (by omega)).1
      have hm : m ≤ 3 := by have := (hn (by omega)).2; omega
      obtain ⟨r, ⟨x, q, rfl, h1, h2⟩, hr⟩ := ev_loop (L := fun k (t : Int × Int × List Fm) => spec_l1Some.l0 k ((d + 1 : Nat) : Int) t.1 s t.2.1 3 ⟨#[]⟩ 0 t.2.2)
        (fun i t => ∃ q : Nat, t.1 = ((m - i : Nat) : Int) ∧ t.2.1 = (q : Int) ∧ q ≤ p + 2 + i * Bn d ∧ totL t.2.2 ≤ i * (Bn d + 1) ∧ t.2.2.length = i) m
        (fun r => ∃ (x : Fm) (q : Nat), r = (x.f0, x.f1, x.f2, x.f3, x.f4, (q : Int)) ∧ q ≤ p + 2 + m * Bn d ∧ x.tot ≤ m * (Bn d + 1)) (by
          rintro i ⟨t1, t2, t3⟩ hi ⟨q, rfl, rfl, hq, ht, hl⟩
          dsimp only at ht hl hq
          have hi3 : i * Bn d ≤ 2 * Bn d := Nat.mul_le_mul_right _ (by omega)
          obtain ⟨y, q', h1, h2, h3⟩ := ih (by omega) q (by omega)
          refine ⟨(((m - (i + 1) : Nat) : Int), (q' : Int), t3 ++ [y]), ⟨q', rfl, rfl, ?_, ?_, by simp [hl]⟩, fun r hr => ?_⟩
          · rw [Nat.succ_mul]; omega
          · rw [totL_append, Nat.succ_mul]; simp only [totL]; omega
          · refine Ev.step (fun k => by rw [spec_l1Some.l0]) (Ev.pos (by show ((m - i : Nat) : Int) > 0; omega) ?_)
            rw [show wrap64 (((d + 1 : Nat) : Int) - 1) = (d : Int) from by rw [wr_in (by omega) (by omega)]; omega]
            refine Ev.bind h3 (Ev.pos (by show t3.length < _; change t3.length = i at hl; omega) ?_)
            dsimp only
            rw [Fm.eta, show wrap64 (((m - i : Nat) : Int) - 1) = ((m - (i + 1) : Nat) : Int) from by rw [wr_in (by omega) (by omega)]; omega]
            exact hr) (by
          rintro ⟨t1, t2, t3⟩ ⟨q, rfl, rfl, hq, ht, hl⟩
          refine ⟨_, ⟨⟨3, ⟨#[]⟩, 0, [], t3⟩, q, rfl, hq, by simp [Fm.tot, ByteArray.size]; omega⟩, Ev.step (fun k => by rw [spec_l1Some.l0]) (Ev.neg (by simp) (Ev.now _))⟩)
        (((m : Nat) : Int), ((p + 2 : Nat) : Int), []) ⟨p + 2, by simp, rfl, by omega, by simp [totL], rfl⟩
      have hm3 : m * Bn d ≤ 3 * Bn d := Nat.mul_le_mul_right _ hm
      have hm4 : m * (Bn d + 1) ≤ 3 * (Bn d + 1) := Nat.mul_le_mul_right _ hm
      refine ⟨x, q, by have : Bn (d + 1) = 13 + 3 * (Bn d + 1) := rfl; omega, by have : Bn (d + 1) = 13 + 3 * (Bn d + 1) := rfl; omega, Ev.step (fun k => by rw [spec_l1Some.f]) (Ev.neg (by omega) (Ev.bind e1 ?_))⟩
      dsimp only
      rw [hz]
      refine Ev.step (fun k => by rw [spec_l1Some.j0]) (Ev.neg (by simp) (Ev.bind e2 ?_))
      exact hr
end Go.Proofs.Yteonncnhhccgeaa
end
section
namespace Go.Proofs.Yteonncnhhccgeaa
open Go.RowKit Go.Proofs.YteonncnhhccgeaaW.PrintWords Go.Proofs.YteonncnhhccgeaaW.PrintLast Go.Proofs.YteonncnhhccgeaaW.PrintMore
set_option linter.unusedVariables false
set_option linter.unusedSimpArgs false
@[reducible] def fmV (x : Fm) (A3 : Option Addr) (c3 : Nat) (A4 : Option Addr) (c4 : Nat) : Array Value := #[.int .i64 x.f0, .string x.f1, .int .i64 x.f2, .slice A3 x.f3.length c3, .slice A4 x.f4.length c4]
/-- A form is handed back. -/
def GetF (w : World) (x : Fm) (e : Ending) (w' : World) : Prop := ∃ A3 c3 A4 c4, e = .returned (.agg #[.int .i64 x.f0, .string x.f1, .int .i64 x.f2, .slice A3 x.f3.length c3, .slice A4 x.f4.length c4]) ∧ FmIn w' x A3 c3 A4 c4 ∧ Below w.heap.size w w'
/-- A form and another value are handed back. -/
def GetFV (w : World) (x : Fm) (v : Value) (e : Ending) (w' : World) : Prop := ∃ A3 c3 A4 c4, e = .returned (.tuple #[.agg #[.int .i64 x.f0, .string x.f1, .int .i64 x.f2, .slice A3 x.f3.length c3, .slice A4 x.f4.length c4], v]) ∧ FmIn w' x A3 c3 A4 c4 ∧ Below w.heap.size w w'
theorem FmIn.ofR {w : World} {x : Fm} {b b' : Nat} {ok ok' : Nat → Prop} {v3 v4 : Value} (h3 : kI.R 3 w b ok v3 x.f3) (h4 : kF.R 31 w b' ok' v4 x.f4) : ∃ A3 c3 A4 c4, v3 = .slice A3 x.f3.length c3 ∧ v4 = .slice A4 x.f4.length c4 ∧ FmIn w x A3 c3 A4 c4 := by
  obtain ⟨A3, c3, rfl, l3, g3⟩ := Kd.R_reads h3
  obtain ⟨A4, c4, rfl, l4, g4⟩ := Kd.R_reads h4
  exact ⟨A3, c3, A4, c4, rfl, rfl, l3, g3, l4, g4⟩
end Go.Proofs.Yteonncnhhccgeaa
end
section
namespace Go.Proofs.Yteonncnhhccgeaa
open Go.RowKit Go.Proofs.YteonncnhhccgeaaW.PrintWords Go.Proofs.YteonncnhhccgeaaW.PrintLast Go.Proofs.YteonncnhhccgeaaW.PrintMore
set_option linter.unusedVariables false
set_option linter.unusedSimpArgs false
/-- The form x reads in w, and in every world in which the blocks from lo on stand as_ in w. -/
structure FmS (lo : Nat) (w : World) (x : Fm) (A3 : Option Addr) (c3 : Nat) (A4 : Option Addr) (c4 : Nat) : Prop where mk ::
  out : ∀ W : World, (∀ b, lo ≤ b → b < w.heap.size → W.heap[b]? = w.heap[b]?) → FmIn W x A3 c3 A4 c4
theorem FmS.now {lo : Nat} {w : World} {x : Fm} {A3 : Option Addr} {c3 : Nat} {A4 : Option Addr} {c4 : Nat} (h : FmS lo w x A3 c3 A4 c4) : FmIn w x A3 c3 A4 c4 := h.out w (fun _ _ _ => rfl)
theorem FmS.move {lo : Nat} {w W : World} {x : Fm} {A3 : Option Addr} {c3 : Nat} {A4 : Option Addr} {c4 : Nat} (h : FmS lo w x A3 c3 A4 c4) (hs : w.heap.size ≤ W.heap.size) (hm : ∀ b, lo ≤ b → b < w.heap.size → W.heap[b]? = w.heap[b]?) : FmS lo W x A3 c3 A4 c4 :=
  ⟨fun W' h' => h.out W' (fun b h1 h2 => (h' b h1 (Nat.lt_of_lt_of_le h2 hs)).trans (hm b h1 h2))⟩
theorem FmS.later {lo : Nat} {w W : World} {x : Fm} {A3 : Option Addr} {c3 : Nat} {A4 : Option Addr} {c4 : Nat} (h : FmS lo w x A3 c3 A4 c4) (hb : Below w.heap.size w W) : FmS lo W x A3 c3 A4 c4 := h.move hb.size (fun b _ hlt => hb.block b hlt)
theorem FmS.keep {lo g : Nat} {w W : World} {x : Fm} {A3 : Option Addr} {c3 : Nat} {A4 : Option Addr} {c4 : Nat} (h : FmS lo w x A3 c3 A4 c4) (hk : KeepBut w W g none) (hg : g < lo) : FmS lo W x A3 c3 A4 c4 := h.move hk.1 (fun b h1 hlt => hk.2 b hlt (by omega) (by simp))
theorem FmS.low {lo lo' : Nat} {w : World} {x : Fm} {A3 : Option Addr} {c3 : Nat} {A4 : Option Addr} {c4 : Nat} (h : FmS lo w x A3 c3 A4 c4) (hl : lo' ≤ lo) : FmS lo' w x A3 c3 A4 c4 := ⟨fun W hW => h.out W (fun b h1 h2 => hW b (Nat.le_trans hl h1) h2)⟩
/-- A form and another value are handed back; the form lies in new memory. -/
def GetFS (w : World) (x : Fm) (v : Value) (e : Ending) (w' : World) : Prop := ∃ A3 c3 A4 c4, e = .returned (.tuple #[.agg #[.int .i64 x.f0, .string x.f1, .int .i64 x.f2, .slice A3 x.f3.length c3, .slice A4 x.f4.length c4], v]) ∧ FmS w.heap.size w' x A3 c3 A4 c4 ∧ Below w.heap.size w w'
theorem GetFS.V {w : World} {x : Fm} {v : Value} {e : Ending} {w' : World} (h : GetFS w x v e w') : GetFV w x v e w' := by
  obtain ⟨A3, c3, A4, c4, he, hs, hb⟩ := h
  exact ⟨A3, c3, A4, c4, he, hs.now, hb⟩
theorem NewF.toS {B : Nat} {w : World} {x : Fm} {v3 v4 : Value} (h : NewF B w x v3 v4) : ∃ A3 c3 A4 c4, v3 = .slice A3 x.f3.length c3 ∧ v4 = .slice A4 x.f4.length c4 ∧ FmS B w x A3 c3 A4 c4 := by
  obtain ⟨fp, ht, _, hge⟩ := h
  obtain ⟨A3, c3, A4, c4, rfl, rfl, _⟩ := ht.In
  refine ⟨A3, c3, A4, c4, rfl, rfl, ⟨fun W hW => ?_⟩⟩
  obtain ⟨B3, d3, B4, d4, e3, e4, hi⟩ := (ht.move (w1 := W) x (fun b hb => hW b (hge b hb) (ht.lt x b hb))).In
  injection e3 with a1 _ a2
  injection e4 with a3 _ a4
  subst a1 a2 a3 a4
  exact hi
theorem FmS.ofR {B : Nat} {w : World} {x : Fm} {ok ok' : Nat → Prop} {v3 v4 : Value} (h3 : kI.R 3 w B ok v3 x.f3) (h4 : kF.R 31 w B ok' v4 x.f4) : ∃ A3 c3 A4 c4, v3 = .slice A3 x.f3.length c3 ∧ v4 = .slice A4 x.f4.length c4 ∧ FmS B w x A3 c3 A4 c4 := by
  obtain ⟨A3, c3, A4, c4, rfl, rfl, _⟩ := FmIn.ofR h3 h4
  refine ⟨A3, c3, A4, c4, rfl, rfl, ⟨fun W hW => ?_⟩⟩
  have k3 := Kd.R_move (w1 := W) (Kd.R_bound h3) (fun k hk => hW k hk.2.1 hk.2.2.1)
  have k4 := Kd.R_move (w1 := W) (Kd.R_bound h4) (fun k hk => hW k hk.2.1 hk.2.2.1)
  obtain ⟨B3, d3, B4, d4, e3, e4, hi⟩ := FmIn.ofR k3 k4
  injection e3 with a1 _ a2
  injection e4 with a3 _ a4
  subst a1 a2 a3 a4
  exact hi
theorem Dr.ltW {w0 w W : World} {g : Nat} {s : List Int} {q : Int} (h : Dr w0 w g s q W) : g < W.heap.size := Nat.lt_of_lt_of_le h.lt h.size
/-- A form is drawn: it lies in new memory, and the source stands at q. -/
def DrGet (w0 : World) (g : Nat) (s : List Int) (q : Nat) (y : Fm) (w : World) (e : Ending) (w' : World) : Prop :=
  ∃ A3 c3 A4 c4, e = .returned (.agg #[.int .i64 y.f0, .string y.f1, .int .i64 y.f2, .slice A3 y.f3.length c3, .slice A4 y.f4.length c4]) ∧ FmS w.heap.size w' y A3 c3 A4 c4 ∧ IsRd w0 w' g s (q : Int) ∧ Below w0.heap.size w0 w' ∧ KeepBut w w' g none
theorem DrPost.get {w0 : World} {g : Nat} {s : List Int} {q : Nat} {y : Fm} {w : World} {e : Ending} {w' : World} (h : DrPost w0 g s (q : Int) y w e w') : DrGet w0 g s q y w e w' := by
  obtain ⟨v3, v4, rfl, hn, hi, hb, hk⟩ := h
  obtain ⟨A3, c3, A4, c4, rfl, rfl, hs⟩ := hn.toS
  exact ⟨A3, c3, A4, c4, rfl, hs, hi, hb, hk⟩
def SomeOk (s : List Int) (d : Nat) (p : Nat) (y : Fm) (q : Nat) : Prop := ∀ (g : Nat) (w0 w : World), IsRd w0 w g s (p : Int) → Below w0.heap.size w0 w → Calls Try.prog 112 #[.pointer (some ⟨g, 0, none⟩), .int .i64 (d : Int)] w (DrGet w0 g s q y w)
theorem some_ex {s : List Int} (hs : Bts s) (d : Nat) (hd : d ≤ 4) (p : Nat) (hp : p + Bn d ≤ 900000) : ∃ (y : Fm) (q : Nat), q ≤ p + Bn d ∧ y.tot ≤ Bn d ∧ SomeOk s d p y q := by
  obtain ⟨y, q, h1, h2, h3⟩ := ev_some hs d hd p hp
  obtain ⟨k, hk⟩ := h3.rounds
  refine ⟨y, q, h1, h2, fun g w0 w hi hb => (Q.spec_l1Some.calls k g s p d _ _ _ _ _ _ w0 w hi hb hk).mono ?_⟩
  rintro e w' ⟨v3, v4, rfl, r3, r4, hi', hb', hk'⟩
  obtain ⟨A3, c3, A4, c4, rfl, rfl, hs'⟩ := FmS.ofR r3 r4
  exact ⟨A3, c3, A4, c4, rfl, hs', hi', hb', hk'⟩
/-- num over a literal in its own block. -/
theorem num_lit {s : List Int} {l : List Int} {cs : Array Value} (hcs : cs.toList = l.map (Value.int .i64)) (hl : l.length ≤ 1000) {p : Nat} {n : Int} (h : Ev (fun k => Q.spec_l15Rd_num.f k s (p : Int) l) (n, ((p + 1 : Nat) : Int))) (g : Nat) (w0 W : World) (hi : IsRd w0 W g s (p : Int)) (hb : Below w0.heap.size w0 W) :
    Calls Try.prog 126 #[.pointer (some ⟨g, 0, none⟩), .slice (some ⟨W.heap.size, 0, none⟩) l.length l.length] (W.alloc (.cells cs 3 (0, 0))) (fun e w' => e = .returned (.int .i64 n) ∧ IsRd w0 w' g s ((p + 1 : Nat) : Int) ∧ Below w0.heap.size w0 w' ∧ KeepBut W w' g none) := by
  obtain ⟨k, hk⟩ := h.rounds
  have hlt := Q.IsS104.lt hi
  refine (Q.spec_l15Rd_num.calls k g s _ (some ⟨W.heap.size, 0, none⟩) _ l n _ w0 _ (Q.IsS104.below hi (below_new _ _)) (below_step hb (below_new _ _)) (reads_block (blk_new W _) hl hcs) (Nat.le_refl _) (fun ad e _ => by cases e; show W.heap.size ≠ g; omega) hk).mono ?_
  rintro e w' ⟨rfl, h1, h2, h3⟩
  exact ⟨rfl, h1, h2, (KeepBut.of_below (below_new W _) g none).trans h3 (.inl rfl)⟩
/-- A pick. -/
theorem pick_at {s : List Int} {p : Nat} {n v : Int} (h : Ev (fun k => Q.spec_l15Rd_pick.f k s (p : Int) n) (v, ((p + 1 : Nat) : Int))) (g : Nat) (w0 W : World) (hi : IsRd w0 W g s (p : Int)) (hb : Below w0.heap.size w0 W) :
    Calls Try.prog 79 #[.pointer (some ⟨g, 0, none⟩), .int .i64 n] W (fun e w' => e = .returned (.int .i64 v) ∧ IsRd w0 w' g s ((p + 1 : Nat) : Int) ∧ Below w0.heap.size w0 w' ∧ KeepBut W w' g none) := by
  obtain ⟨k, hk⟩ := h.rounds
  refine (Q.spec_l15Rd_pick.calls k g s _ n v _ w0 _ hi hb hk).mono ?_
  rintro e w' ⟨rfl, h1, h2, h3⟩
  exact ⟨rfl, h1, h2, h3⟩
/-- The source is opened. -/
theorem open_at (l : List Int) (hl : ∀ z, z ∈ l → 0 ≤ z ∧ z < 256) : ∃ s, Bts s ∧ ∀ (A : Option Addr) (c : Nat) (w0 w : World), Below w0.heap.size w0 w → (Kd.int .u8).C w0 A l.length l → l.length ≤ c →
    Calls Try.prog 78 #[.slice A l.length c] w (fun e w' => ∃ g, e = .returned (.pointer (some ⟨g, 0, none⟩)) ∧ IsRd w0 w' g s ((0 : Nat) : Int) ∧ Below w0.heap.size w0 w' ∧ Below w.heap.size w w') := by
  obtain ⟨s, hs, he⟩ := ev_open l hl
  refine ⟨s, hs, fun A c w0 w hb hr hc => ?_⟩
  exact (Q.spec_l15Open.calls A c l s 0 w0 w hb hr hc he).mono fun e w' h => h
end Go.Proofs.Yteonncnhhccgeaa
end
section
namespace Go.Proofs.Yteonncnhhccgeaa
open Go.RowKit Go.Proofs.YteonncnhhccgeaaW.PrintWords Go.Proofs.YteonncnhhccgeaaW.PrintLast Go.Proofs.YteonncnhhccgeaaW.PrintMore
set_option linter.unusedVariables false
set_option linter.unusedSimpArgs false
abbrev setsW : List (List Int) := [([] : List Int), ([1] : List Int), ([2] : List Int), ([1, 2] : List Int), ([1, 3] : List Int), ([1, 2, 3] : List Int), ([3, 1] : List Int)]
/-- Two sets are handed back. -/
def GetSets (w : World) (a b : List Int) (e : Ending) (w' : World) : Prop := ∃ A1 c1 A2 c2, e = .returned (.tuple #[.slice A1 a.length c1, .slice A2 b.length c2]) ∧ a.length ≤ c1 ∧ kI.C w' A1 a.length a ∧ b.length ≤ c2 ∧ kI.C w' A2 b.length b ∧ Below w.heap.size w w'
end Go.Proofs.Yteonncnhhccgeaa
end
section
namespace Go.Proofs.Yteonncnhhccgeaa
open Go.RowKit Go.Proofs.YteonncnhhccgeaaW.PrintWords Go.Proofs.YteonncnhhccgeaaW.PrintLast Go.Proofs.YteonncnhhccgeaaW.PrintMore
set_option linter.unusedVariables false
set_option linter.unusedSimpArgs false
set_option maxHeartbeats 4000000 in
set_option maxRecDepth 100000 in
theorem dressed_any (fv : Fv) (g : List Int → List Int) : ∀ x : Fm, AllNm (fun y => fv.f y.f3 = some (g y.f3)) x → ∀ (A3 : Option Addr) (c3 : Nat) (A4 : Option Addr) (c4 : Nat) (w : World), FmIn w x A3 c3 A4 c4 → x.tot ≤ 1000000000 → Below fv.w0.heap.size fv.w0 w →
    Calls Try.prog 117 #[.agg #[.int .i64 x.f0, .string x.f1, .int .i64 x.f2, .slice A3 x.f3.length c3, .slice A4 x.f4.length c4], .func (.func fv.g) #[] fv.lb] w (RetF w (x.chS g)) := by
  intro x
  induction x using Fm.ind with
  | h x ih =>
    intro ha A3 c3 A4 c4 w hin ht hw
    have hmax := hin.g4.2.1
    have HI := Lib.hid hin
    have HT := Lib.hid ht
    have IH := Lib.hid ih
    have HA := Lib.hid ha
    have HW := Lib.hid hw
    clear hin ht ih ha hw
    go_enter Try.func117, Try.ntmps117
    have HCP : Hid (Cp w (.cells #[.int .i64 x.f0, .string x.f1, .int .i64 x.f2, .slice A3 x.f3.length c3, .slice A4 x.f4.length c4] 31) (.cells #[.int .i64 0, .string ⟨#[]⟩, .int .i64 0, .slice none 0 0, .slice none 0 0] 31) (w.heap.size + 1 + 1) x.f0 x.f1 x.f2 [] [] (.slice none 0 0) (.slice none 0 0) [] [] (((w.alloc (.cells #[.int .i64 x.f0, .string x.f1, .int .i64 x.f2, .slice A3 x.f3.length c3, .slice A4 x.f4.length c4] 31)).alloc (.cells #[.int .i64 0, .string ⟨#[]⟩, .int .i64 0, .slice none 0 0, .slice none 0 0] 31)).alloc (.cells #[.int .i64 x.f0, .string x.f1, .int .i64 x.f2, .slice none 0 0, .slice none 0 0] 31))) := by
      obtain ⟨k1, k2, k3, hb⟩ := three_new (w := w) (O1 := (.cells #[.int .i64 x.f0, .string x.f1, .int .i64 x.f2, .slice A3 x.f3.length c3, .slice A4 x.f4.length c4] 31)) (O2 := (.cells #[.int .i64 0, .string ⟨#[]⟩, .int .i64 0, .slice none 0 0, .slice none 0 0] 31)) (O3 := .cells #[.int .i64 x.f0, .string x.f1, .int .i64 x.f2, .slice none 0 0, .slice none 0 0] 31) (Below.refl _ _)
      exact ⟨⟨hb, k1, k2, k3, Nat.le_refl _⟩, by simp [World.ownsRow, encs], by simp [World.ownsRow], .nil, by simp [obs, Value.ownBlock], by simp [obs, Value.ownBlock]⟩
    have HBP := Lib.hid (show Below w.heap.size w (((w.alloc (.cells #[.int .i64 x.f0, .string x.f1, .int .i64 x.f2, .slice A3 x.f3.length c3, .slice A4 x.f4.length c4] 31)).alloc (.cells #[.int .i64 0, .string ⟨#[]⟩, .int .i64 0, .slice none 0 0, .slice none 0 0] 31)).alloc (.cells #[.int .i64 x.f0, .string x.f1, .int .i64 x.f2, .slice none 0 0, .slice none 0 0] 31)) from HCP.out.fr.b)
    go_upto_if 17 with fail
    (try simp only [Act.put, List.setIfInBounds_toArray, List.set_cons_zero, List.set_cons_succ])
    go_cut [] (fun wc => ∃ (sc : List Int) (D3 : Option Addr) (e3 : Nat), Aside0 (sc = if x.f0 = 1 then g x.f3 else []) ∧ Aside0 (Cp w (.cells #[.int .i64 x.f0, .string x.f1, .int .i64 x.f2, .slice A3 x.f3.length c3, .slice A4 x.f4.length c4] 31) (.cells #[.int .i64 0, .string ⟨#[]⟩, .int .i64 0, .slice none 0 0, .slice none 0 0] 31) (w.heap.size + 1 + 1) x.f0 x.f1 x.f2 sc [] (.slice D3 sc.length e3) (.slice none 0 0) [] [] wc))
    case first =>
      by_cases h1 : x.f0 = 1
      · have c1 : (x.f0 == 1) = true := beq_iff_eq.mpr h1
        have HF := Lib.hid (HA.out.at h1)
        have HX1 := Lib.hid h1
        clear h1
        (first | rw [c1] | skip)
        go_wp2_with fail
        refine (cloneI_any x.f3 A3 c3 _ (Kd.C_below HI.out.g3 HBP.out) HI.out.l3 (by have := HT.out; have := scTot x; omega)).mono ?_
        rintro e w4 ⟨v3, rfl, ho3, hb4⟩
        obtain ⟨D3, e3, rfl⟩ := Kd.R_slice ho3
        have HR3 := Aside0.mk ho3
        have HB4 := Lib.hid hb4
        clear ho3 hb4
        go_wp2_with (first | ((with_reducible refine gate_dst (N := 22) rfl ?_); refine Q.goesV_ (some 22) rfl rfl fv.eg #[.slice D3 x.f3.length e3] rfl rfl (by (try simp only [List.map_toArray, List.map_cons, List.map_nil]); first | done | rfl) ?_; refine (fv.ok (fun _ => True) _ x.f3 (g x.f3) (((w.alloc (.cells #[.int .i64 x.f0, .string x.f1, .int .i64 x.f2, .slice A3 x.f3.length c3, .slice A4 x.f4.length c4] 31)).alloc (.cells #[.int .i64 0, .string ⟨#[]⟩, .int .i64 0, .slice none 0 0, .slice none 0 0] 31)).alloc (.cells #[.int .i64 x.f0, .string x.f1, .int .i64 x.f2, .slice none 0 0, .slice none 0 0] 31)) w4 HB4.out HR3.out (below_step HW.out HBP.out) HF.out).mono ?_; rintro e w5 ⟨v0, rfl, hr5, hb5, hk5⟩; refine ⟨_, rfl, ?_⟩; obtain ⟨D5, e5, e6⟩ := Kd.R_slice hr5; subst e6; have HR5 := Aside0.mk hr5; have HB5 := Lib.hid hb5; have z3 := (fm_cells (HCP.out.later hb5).fr.k3).2.2.2.1; have f3 := (fm_free (HCP.out.later hb5).fr.k3).2.2.2.1; clear hr5 hb5 hk5))
        go_meet
        case rel => exact ⟨_, _, _, ⟨by rw [if_pos HX1.out]⟩, ⟨HCP.out.rescope HB5.out HR5.out⟩⟩
      · have c1 : (x.f0 == 1) = false := beq_eq_false_iff_ne.mpr h1
        have HX1 := Lib.hid h1
        clear h1
        (first | rw [c1] | skip)
        go_wp2
        go_meet
        case rel => exact ⟨[], none, 0, ⟨by rw [if_neg HX1.out]⟩, ⟨HCP.out⟩⟩
    case rest =>
      obtain ⟨sc, D3, e3, HSC, HCP⟩ := hcut
      obtain ⟨l0, l1, l2, l3, l4⟩ := fm_cells HCP.out.fr.k1
      try go_wp2_with fail
      clear l0 l1 l2 l3 l4
      go_loopg [7, 27] x.f4.length (fun kq v5 v4 w' => ∃ i : Nat, i ≤ x.f4.length ∧ x.f4.length - i ≤ kq ∧ v4 = .int .i64 i ∧ Aside0 (∃ v inner fp, Cp w (.cells #[.int .i64 x.f0, .string x.f1, .int .i64 x.f2, .slice A3 x.f3.length c3, .slice A4 x.f4.length c4] 31) (.cells #[.int .i64 0, .string ⟨#[]⟩, .int .i64 0, .slice none 0 0, .slice none 0 0] 31) (w.heap.size + 1 + 1) x.f0 x.f1 x.f2 sc ((x.f4.take i).map (Fm.chS g)) (.slice D3 sc.length e3) v inner fp w'))
      case atStart => exact ⟨0, Nat.zero_le _, by omega, rfl, ⟨⟨.slice none 0 0, [], [], by simpa using HCP.out⟩⟩⟩
      case round =>
        obtain ⟨i, hi, hg, rfl, HO⟩ := hrel
        by_cases hlt : i < x.f4.length
        · obtain ⟨v, inner, fp, hC⟩ := HO.out
          obtain ⟨ad, G3, m3, G4, m4, e, g0, g1, g2, g3_, g4, hk⟩ := kid_at HI.out.g4 i hlt
          subst e
          replace g0 := ck0 hC.fr.b g0
          replace g1 := ck0 hC.fr.b g1
          replace g2 := ck0 hC.fr.b g2
          replace g3_ := ck0 hC.fr.b g3_
          replace g4 := ck0 hC.fr.b g4
          have hkt := totL_mem (List.getElem_mem hlt)
          have hxt := HT.out
          rw [Fm.tot_eq] at hxt
          have r1 : (0 : Int) ≤ (i : Int) := by omega
          have r2 : (i : Int) < (x.f4.length : Int) := by omega
          have hlen := len_totL x.f4
          have HKT := Lib.hid (show x.f4[i].tot ≤ 1000000000 by omega)
          have HLN := Lib.hid (show x.f4.length ≤ 1000000000 by omega)
          have HK := Lib.hid hk
          have HC := Lib.hid hC
          have SK := Lib.hid (fun (W : World) (hf : Fr w (.cells #[.int .i64 x.f0, .string x.f1, .int .i64 x.f2, .slice A3 x.f3.length c3, .slice (some ad) x.f4.length c4] 31) (.cells #[.int .i64 0, .string ⟨#[]⟩, .int .i64 0, .slice none 0 0, .slice none 0 0] 31) (w.heap.size + 1 + 1) #[.int .i64 x.f0, .string x.f1, .int .i64 x.f2, (.slice D3 sc.length e3), v] W) (hk : W.heap[wr.heap.size]? = some (.cells #[.int .i64 x.f4[i].f0, .string x.f4[i].f1, .int .i64 x.f4[i].f2, .slice G3 x.f4[i].f3.length m3, .slice G4 x.f4[i].f4.length m4] 31)) => (⟨(fm_cells hf.k3).2.2.2.2, (fm_cells hk).1, (fm_cells hk).2.1, (fm_cells hk).2.2.1, (fm_cells hk).2.2.2.1, (fm_cells hk).2.2.2.2⟩ : (fun w' => w'.cell? ⟨(w.heap.size + 1 + 1), 4, none⟩ = some v ∧ w'.cell? ⟨wr.heap.size, 0, none⟩ = some (.int .i64 x.f4[i].f0) ∧ w'.cell? ⟨wr.heap.size, 1, none⟩ = some (.string x.f4[i].f1) ∧ w'.cell? ⟨wr.heap.size, 2, none⟩ = some (.int .i64 x.f4[i].f2) ∧ w'.cell? ⟨wr.heap.size, 3, none⟩ = some (.slice G3 x.f4[i].f3.length m3) ∧ w'.cell? ⟨wr.heap.size, 4, none⟩ = some (.slice G4 x.f4[i].f4.length m4)) W))
          have hvl : ∀ b, v.ownBlock = some b → b ≠ wr.heap.size := fun b hb => by have := hC.lt b (by simp [obs_mem, hb]); omega
          have HVL := Lib.hid hvl
          clear hC hk hkt hxt hlen hvl
          go_wp2_with fail
          clear g0 g1 g2 g3_ g4
          have HD := Lib.hid ((HC.out.later (below_new _ (.cells #[.int .i64 x.f4[i].f0, .string x.f4[i].f1, .int .i64 x.f4[i].f2, .slice G3 x.f4[i].f3.length m3, .slice G4 x.f4[i].f4.length m4] 31))).later (below_drew (Below.refl _ _)))
          have KD := Lib.hid (blk_drew (blk_new wr (.cells #[.int .i64 x.f4[i].f0, .string x.f4[i].f1, .int .i64 x.f4[i].f2, .slice G3 x.f4[i].f3.length m3, .slice G4 x.f4[i].f4.length m4] 31)))
          refine start_ (n := 9) (S := fun w' => w'.cell? ⟨(w.heap.size + 1 + 1), 4, none⟩ = some v ∧ w'.cell? ⟨wr.heap.size, 0, none⟩ = some (.int .i64 x.f4[i].f0) ∧ w'.cell? ⟨wr.heap.size, 1, none⟩ = some (.string x.f4[i].f1) ∧ w'.cell? ⟨wr.heap.size, 2, none⟩ = some (.int .i64 x.f4[i].f2) ∧ w'.cell? ⟨wr.heap.size, 3, none⟩ = some (.slice G3 x.f4[i].f3.length m3) ∧ w'.cell? ⟨wr.heap.size, 4, none⟩ = some (.slice G4 x.f4[i].f4.length m4)) (ds := [8]) #[false, false, false, false, false, false, false, false, false] (by kernel_rfl) rfl rfl (SK.out _ HD.out.fr KD.out) (fun hHeld => ?_)
          generalize World.drew _ = wd at HD KD hHeld ⊢
          refine pure_ (i := 0) (N := some 31) (v := ?_) (a' := ?_) #[true, false, false, false, false, false, false, false, false] rfl rfl (by kernel_rfl) (fun _ _ _ h => h) (Or.inl ⟨by rfl, ?_⟩) ?_ ?_
          rotate_left
          · intro w'
            go_simp
            with_reducible rfl
          rotate_left
          · simp only [Act.put, List.setIfInBounds_toArray, List.set_cons_zero, List.set_cons_succ, i64_w, i32_w]
            rfl
          refine pure_ (i := 3) (N := some 34) (v := ?_) (a' := ?_) #[true, false, false, true, false, false, false, false, false] rfl rfl (by kernel_rfl) (fun _ _ _ h => h) (Or.inl ⟨by rfl, ?_⟩) ?_ ?_
          rotate_left
          · intro w'
            go_simp
            with_reducible rfl
          rotate_left
          · simp only [Act.put, List.setIfInBounds_toArray, List.set_cons_zero, List.set_cons_succ, i64_w, i32_w]
            rfl
          refine take_ (i := 1) (N := some 32) (v := ?_) (a' := ?_) #[true, true, false, true, false, false, false, false, false] rfl rfl (by kernel_rfl) (fun _ _ _ h => h) (Or.inl ⟨by rfl, ?_⟩) hHeld ?_ ?_
          rotate_left
          · rintro w' ⟨s0, s1, s2, s3, s4, s5⟩
            go_simp
            with_reducible rfl
          rotate_left
          · simp only [Act.put, List.setIfInBounds_toArray, List.set_cons_zero, List.set_cons_succ, i64_w, i32_w]
            rfl
          refine take_ (i := 2) (N := some 33) (v := ?_) (a' := ?_) #[true, true, true, true, false, false, false, false, false] rfl rfl (by kernel_rfl) (fun _ _ _ h => h) (Or.inl ⟨by rfl, ?_⟩) hHeld ?_ ?_
          rotate_left
          · rintro w' ⟨s0, s1, s2, s3, s4, s5⟩
            go_simp
            with_reducible rfl
          rotate_left
          · simp only [Act.put, List.setIfInBounds_toArray, List.set_cons_zero, List.set_cons_succ, i64_w, i32_w]
            rfl
          refine one_ (i := 4) (N := some 35) #[true, true, true, true, true, false, false, false, false] rfl rfl (by kernel_rfl) (by decide) (fun K hK => ?_)
          refine goes_ Try.func117 (by kernel_rfl) rfl #[.agg #[.int .i64 x.f4[i].f0, .string x.f4[i].f1, .int .i64 x.f4[i].f2, .slice G3 x.f4[i].f3.length m3, .slice G4 x.f4[i].f4.length m4], .func (.func fv.g) #[] fv.lb] (by rfl) rfl rfl (by (try simp only [List.map_toArray, List.map_cons, List.map_nil]); first | done | rfl) ?_
          refine (IH.out x.f4[i] (List.getElem_mem hlt) (HA.out.kid _ (List.getElem_mem hlt)) G3 m3 G4 m4 wd (HK.out.below HD.out.fr.b) HKT.out (below_step HW.out HD.out.fr.b)).mono ?_
          rintro e w7 ⟨u3, u4, rfl, hn, hb7⟩
          refine ⟨_, rfl, ?_⟩
          obtain ⟨J3, q3, J4, q4, rfl, rfl⟩ : ∃ J3 q3 J4 q4, u3 = .slice J3 (x.f4[i].chS g).f3.length q3 ∧ u4 = .slice J4 (x.f4[i].chS g).f4.length q4 := by
            obtain ⟨fk, hk2, _⟩ := hn
            obtain ⟨J3, q3, J4, q4, e3, e4, _⟩ := hk2.In
            exact ⟨J3, q3, J4, q4, e3, e4⟩
          have H7 := Lib.hid (HD.out.later hb7)
          have HN := Lib.hid hn
          have HLT := Lib.hid (And.intro HD.out.lt HD.out.fr.lt)
          have K7 := Lib.hid (blk_below KD.out hb7)
          clear hn hb7
          refine hK.out _ _ (SK.out _ H7.out.fr K7.out) (fun hHeld => ?_)
          clear hK K
          refine norm_ (a' := ?_) ?_ ?_
          rotate_left
          · show Act.put _ (some 35) _ = _
            simp only [Act.put, List.setIfInBounds_toArray, List.set_cons_zero, List.set_cons_succ, i64_w, i32_w]
            rfl
          refine one_ (i := 5) (N := some 36) #[true, true, true, true, true, true, false, false, false] rfl rfl (by kernel_rfl) (by decide) (fun K hK => ?_)
          refine value_ (w1 := ?_) (v := ?_) (by rfl) rfl ?_ ?_
          rotate_left 2
          · go_simp
            constructor
            · rfl
            · rfl
          refine hK.out _ _ (SK.out _ (H7.out.fr.later (below_new _ _)) (blk_alloc K7.out _)) (fun hHeld => ?_)
          clear hK K
          refine norm_ (a' := ?_) ?_ ?_
          rotate_left
          · show Act.put _ (some 36) _ = _
            simp only [Act.put, List.setIfInBounds_toArray, List.set_cons_zero, List.set_cons_succ, i64_w, i32_w]
            rfl
          refine one_ (i := 6) (N := some 37) #[true, true, true, true, true, true, true, false, false] rfl rfl (by kernel_rfl) (by decide) (fun K hK => ?_)
          have hl0 : ((x.f4.take i).map (Fm.chS g)).length = i := by simp; omega
          refine step_append_cells (w0 := w) (W := w7) w.heap.size (by rfl) (.tmp 32) (.tmp 36) 29 31 (.agg #[.int .i64 0, .string ⟨#[]⟩, .int .i64 0, .slice none 0 0, .slice none 0 0]) 5 80 rfl Try.underlying29 infoF rfl (by decide) (by omega) v ((x.f4.take i).map (Fm.chS g)).length inner [.int .i64 (x.f4[i].chS g).f0, .string (x.f4[i].chS g).f1, .int .i64 (x.f4[i].chS g).f2, .slice J3 (x.f4[i].chS g).f3.length q3, .slice J4 (x.f4[i].chS g).f4.length q4] rfl rfl rfl (by simp [Value.oneCell']) (own_base_ H7.out.o4 (fun b hb => by have := (H7.out.ge b (by simp [obs_mem, hb])).1; omega)) H7.out.fr.b H7.out.fr.b.size (by have := HLN.out; rw [hl0]; omega) ?_
          intro v' w8 ho hb8 hg8 hat8
          obtain ⟨fp', hC8⟩ := H7.out.more HLT.out.1 HLT.out.2.2 HLT.out.2.1 HN.out (own_weaken ho (Nat.zero_le _)) hg8 hat8
          have hf8 := H7.out.fr.grown hg8 (fun c hc => H7.out.ge c (by simp [obs_mem, hc]))
          have hv' : ∃ A c, v' = .slice A (((x.f4.take i).map (Fm.chS g)).length + 1) c := by
            rcases ho with ⟨_, ⟨rfl, h0⟩ | ⟨g, cap, cur, rfl, _⟩⟩
            · exact absurd h0 (by omega)
            · exact ⟨_, _, rfl⟩
          rw [hl0] at hv'
          obtain ⟨A', c', rfl⟩ := hv'
          have K8 := Lib.hid (blk_grown K7.out hg8 (fun e => HVL.out _ e.symm rfl))
          have H8 := Lib.hid hf8
          have HC8 := Lib.hid hC8
          clear ho hb8 hg8 hat8 hf8 hC8
          refine hK.out _ _ (SK.out _ H8.out K8.out) (fun hHeld => ?_)
          clear hK K
          refine norm_ (a' := ?_) ?_ ?_
          rotate_left
          · show Act.put _ (some 37) _ = _
            simp only [Act.put, List.setIfInBounds_toArray, List.set_cons_zero, List.set_cons_succ, i64_w, i32_w]
            rfl
          refine pure_ (i := 7) (N := some 38) (v := ?_) (a' := ?_) #[true, true, true, true, true, true, true, true, false] rfl rfl (by kernel_rfl) (fun _ _ _ h => h) (Or.inl ⟨by rfl, ?_⟩) ?_ ?_
          rotate_left
          · intro w'
            go_simp
            with_reducible rfl
          rotate_left
          · simp only [Act.put, List.setIfInBounds_toArray, List.set_cons_zero, List.set_cons_succ, i64_w, i32_w]
            rfl
          refine last_ (i := 8) (N := none) #[true, true, true, true, true, true, true, true, true] rfl rfl (by kernel_rfl) (by decide) (fun K hK => ?_)
          have z4 := (fm_cells H8.out.k3).2.2.2.2
          have f4 := (fm_free H8.out.k3).2.2.2.2
          refine skip_ (w1 := ?_) (by rfl) rfl ?_ ?_
          rotate_left
          · go_simp
            rfl
          refine hK.out _ _ ?_
          clear hK K z4 f4
          refine done_ (by kernel_rfl) ?_
          have HX := Lib.hid (show (x.f4.take i).map (Fm.chS g) ++ [x.f4[i].chS g] = (x.f4.take (i + 1)).map (Fm.chS g) from by rw [List.take_succ_eq_append_getElem hlt, List.map_append]; rfl)
          rw [HX.out] at HC8
          try go_wp2
          go_roundg (x.f4.length - (i + 1))
          case measure => omega
          case rel => exact ⟨i + 1, by omega, Nat.le_refl _, by go_num, ⟨⟨_, _, _, HC8.out⟩⟩⟩
        · obtain rfl : i = x.f4.length := by omega
          obtain ⟨v, inner, fp, hC⟩ := HO.out
          rw [List.take_length] at hC
          obtain ⟨A4', c4', e4', -, -⟩ := hC.tr.C hC.o4
          rw [show ((x.f4).map (Fm.chS g)).length = x.f4.length from by simp] at e4'
          subst e4'
          obtain ⟨p0, p1, p2, p3, p4⟩ := fm_cells hC.fr.k3
          obtain ⟨y0, y1, y2, y3, y4⟩ := fm_cells hC.fr.k1
          obtain ⟨z0, z1, z2, z3, z4⟩ := fm_cells hC.fr.k2
          obtain ⟨f0, f1, f2, f3, f4⟩ := fm_free hC.fr.k2
          have hn1 : (w.heap.size + 1 + 1) ≠ w.heap.size + 1 := by have := hC.fr.h3; omega
          have hn2 : w.heap.size + 1 ≠ (w.heap.size + 1 + 1) := fun e => hn1 e.symm
          obtain ⟨st1, st2, st3⟩ := st5 hC.fr.k2 (.int .i64 x.f0) (.string x.f1) (.int .i64 x.f2) (.slice D3 sc.length e3) (.slice A4' x.f4.length c4')
          have HNF := hC.newF (st2)
          have HN := Lib.hid HNF
          have HB := Lib.hid (st3 _ _ hC.fr.b (by omega))
          clear hC HO st1 st2 st3 HNF
          go_wp2_with fail
          refine bodyPost_ret (v := .agg #[.int .i64 x.f0, .string x.f1, .int .i64 x.f2, (.slice D3 sc.length e3), .slice A4' x.f4.length c4']) (by simp [results, Try.results117, go_sem, z0, z1, z2, z3, z4]) rfl ?_
          rw [Fm.chS_eq, ← HSC.out]
          exact ⟨_, _, by simp, HN.out, HB.out⟩
end Go.Proofs.Yteonncnhhccgeaa
end
section
namespace Go.Proofs.Yteonncnhhccgeaa
open Go.RowKit Go.Proofs.YteonncnhhccgeaaW.PrintWords Go.Proofs.YteonncnhhccgeaaW.PrintLast Go.Proofs.YteonncnhhccgeaaW.PrintMore
set_option linter.unusedVariables false
set_option linter.unusedSimpArgs false
theorem isOk_kids {x : Fm} (h : ∃ m, IsOk m x) : ∀ k, k ∈ x.f4 → ∃ m, IsOk m k := by
  intro k hk
  obtain ⟨q, h⟩ := h
  obtain ⟨m, rfl, h | h | h⟩ := isOk_cases h
  · rw [h.2.2.2.2] at hk; cases hk
  · rw [h.2.2.2.2.2] at hk; cases hk
  · exact ⟨m, h.2.2.2.2 k hk⟩
theorem isOk_no {n : Nat} {x : Fm} (h : IsOk n x) (h1 : x.f0 ≠ 1) : x.f3 = [] := by
  obtain ⟨m, rfl, h | h | h⟩ := isOk_cases h
  · exact absurd h.1 h1
  · exact h.2.2.2.2.1
  · exact h.2.2.2.1
/-- The scopes of names are in order, and no other form has any. -/
inductive SrtF : Fm → Prop
  | mk (x : Fm) (h1 : x.f0 = 1 → Srt x.f3 ∧ x.f3.length ≤ 100000) (h2 : x.f0 ≠ 1 → x.f3 = []) (hk : ∀ k, k ∈ x.f4 → SrtF k) : SrtF x
theorem SrtF.at {x : Fm} (h : SrtF x) : x.f0 = 1 → Srt x.f3 ∧ x.f3.length ≤ 100000 := by cases h; assumption
theorem SrtF.no {x : Fm} (h : SrtF x) : x.f0 ≠ 1 → x.f3 = [] := by cases h; assumption
theorem SrtF.kid {x : Fm} (h : SrtF x) : ∀ k, k ∈ x.f4 → SrtF k := by cases h; assumption
theorem SrtF.ofOk : ∀ x : Fm, (∃ m, IsOk m x) → SrtF x := by
  intro x
  induction x using Fm.ind with
  | h x ih =>
    intro h
    refine .mk x (fun h1 => ?_) (isOk_no h.choose_spec) (fun k hk => ih k hk (isOk_kids h k hk))
    have := scOk_iff.1 ((isOk_sc h.choose_spec).at h1).1
    exact ⟨this.2.1, by have := this.1; omega⟩
set_option maxHeartbeats 4000000 in
set_option maxRecDepth 100000 in
theorem l2ChangeS_any (n way : Int) : ∀ x : Fm, SrtF x → ∀ (A3 : Option Addr) (c3 : Nat) (A4 : Option Addr) (c4 : Nat) (w : World), FmIn w x A3 c3 A4 c4 → x.tot ≤ 1000000000 →
    Calls Try.prog 121 #[.agg #[.int .i64 x.f0, .string x.f1, .int .i64 x.f2, .slice A3 x.f3.length c3, .slice A4 x.f4.length c4], .int .i64 n, .int .i64 way] w (RetF w (x.chS (wayS n way))) := by
  intro x
  induction x using Fm.ind with
  | h x ih =>
    intro ha A3 c3 A4 c4 w hin ht
    have hmax := hin.g4.2.1
    have HI := Lib.hid hin
    have HT := Lib.hid ht
    have IH := Lib.hid ih
    have HA := Lib.hid ha
    clear hin ht ih ha
    go_enter Try.func121, Try.ntmps121
    go_wp2_with fail
    obtain ⟨kb1, kb2, hb0⟩ := two_new (w := w) (O1 := (.cells #[.int .i64 x.f0, .string x.f1, .int .i64 x.f2, .slice A3 x.f3.length c3, .slice A4 x.f4.length c4] 31)) (O2 := (.cells #[.int .i64 0, .string ⟨#[]⟩, .int .i64 0, .slice none 0 0, .slice none 0 0] 31)) (Below.refl _ _).drew
    obtain ⟨p0, p1, p2, p3, p4⟩ := fm_cells kb1
    refine start_ (n := 13) (S := fun w' => w'.cell? ⟨w.heap.size, 0, none⟩ = some (.int .i64 x.f0) ∧ w'.cell? ⟨w.heap.size, 1, none⟩ = some (.string x.f1) ∧ w'.cell? ⟨w.heap.size, 2, none⟩ = some (.int .i64 x.f2) ∧ w'.cell? ⟨w.heap.size, 3, none⟩ = some (.slice A3 x.f3.length c3)) (ds := []) #[false, false, false, false, false, false, false, false, false, false, false, false, false] (by kernel_rfl) rfl rfl ⟨p0, p1, p2, p3⟩ (fun hHeld => ?_)
    have hsz : w.heap.size + 2 ≤ (((w.alloc (.cells #[.int .i64 x.f0, .string x.f1, .int .i64 x.f2, .slice A3 x.f3.length c3, .slice A4 x.f4.length c4] 31)).alloc (.cells #[.int .i64 0, .string ⟨#[]⟩, .int .i64 0, .slice none 0 0, .slice none 0 0] 31)).drew).heap.size := by simp
    generalize World.drew _ = w5 at kb1 kb2 hb0 hsz p0 p1 p2 p3 p4 hHeld ⊢
    have P0 := Lib.hid p0
    have P1 := Lib.hid p1
    have P2 := Lib.hid p2
    have P3 := Lib.hid p3
    have KB1 := Lib.hid kb1
    have KB2 := Lib.hid kb2
    have HB0 := Lib.hid hb0
    have HSZ := Lib.hid hsz
    clear p0 p1 p2 p3 p4 kb1 kb2 hb0 hsz
    refine pure_ (i := 0) (N := some 9) (v := ?_) (a' := ?_) #[true, false, false, false, false, false, false, false, false, false, false, false, false] rfl rfl (by kernel_rfl) (fun _ _ _ h => h) (Or.inl ⟨by rfl, ?_⟩) ?_ ?_
    rotate_left
    · intro w'
      go_simp
      with_reducible rfl
    rotate_left
    · simp only [Act.put, List.setIfInBounds_toArray, List.set_cons_zero, List.set_cons_succ, i64_w, i32_w]
      rfl
    refine pure_ (i := 2) (N := some 11) (v := ?_) (a' := ?_) #[true, false, true, false, false, false, false, false, false, false, false, false, false] rfl rfl (by kernel_rfl) (fun _ _ _ h => h) (Or.inl ⟨by rfl, ?_⟩) ?_ ?_
    rotate_left
    · intro w'
      go_simp
      with_reducible rfl
    rotate_left
    · simp only [Act.put, List.setIfInBounds_toArray, List.set_cons_zero, List.set_cons_succ, i64_w, i32_w]
      rfl
    refine pure_ (i := 4) (N := some 13) (v := ?_) (a' := ?_) #[true, false, true, false, true, false, false, false, false, false, false, false, false] rfl rfl (by kernel_rfl) (fun _ _ _ h => h) (Or.inl ⟨by rfl, ?_⟩) ?_ ?_
    rotate_left
    · intro w'
      go_simp
      with_reducible rfl
    rotate_left
    · simp only [Act.put, List.setIfInBounds_toArray, List.set_cons_zero, List.set_cons_succ, i64_w, i32_w]
      rfl
    refine pure_ (i := 7) (N := some 16) (v := ?_) (a' := ?_) #[true, false, true, false, true, false, false, true, false, false, false, false, false] rfl rfl (by kernel_rfl) (fun _ _ _ h => h) (Or.inl ⟨by rfl, ?_⟩) ?_ ?_
    rotate_left
    · intro w'
      go_simp
      with_reducible rfl
    rotate_left
    · simp only [Act.put, List.setIfInBounds_toArray, List.set_cons_zero, List.set_cons_succ, i64_w, i32_w]
      rfl
    refine take_ (i := 1) (N := some 10) (v := ?_) (a' := ?_) #[true, true, true, false, true, false, false, true, false, false, false, false, false] rfl rfl (by kernel_rfl) (fun _ _ _ h => h) (Or.inl ⟨by rfl, ?_⟩) hHeld ?_ ?_
    rotate_left
    · rintro w' ⟨s0, s1, s2, s3⟩
      go_simp
      with_reducible rfl
    rotate_left
    · simp only [Act.put, List.setIfInBounds_toArray, List.set_cons_zero, List.set_cons_succ, i64_w, i32_w]
      rfl
    refine take_ (i := 3) (N := some 12) (v := ?_) (a' := ?_) #[true, true, true, true, true, false, false, true, false, false, false, false, false] rfl rfl (by kernel_rfl) (fun _ _ _ h => h) (Or.inl ⟨by rfl, ?_⟩) hHeld ?_ ?_
    rotate_left
    · rintro w' ⟨s0, s1, s2, s3⟩
      go_simp
      with_reducible rfl
    rotate_left
    · simp only [Act.put, List.setIfInBounds_toArray, List.set_cons_zero, List.set_cons_succ, i64_w, i32_w]
      rfl
    refine take_ (i := 5) (N := some 14) (v := ?_) (a' := ?_) #[true, true, true, true, true, true, false, true, false, false, false, false, false] rfl rfl (by kernel_rfl) (fun _ _ _ h => h) (Or.inl ⟨by rfl, ?_⟩) hHeld ?_ ?_
    rotate_left
    · rintro w' ⟨s0, s1, s2, s3⟩
      go_simp
      with_reducible rfl
    rotate_left
    · simp only [Act.put, List.setIfInBounds_toArray, List.set_cons_zero, List.set_cons_succ, i64_w, i32_w]
      rfl
    refine take_ (i := 8) (N := some 17) (v := ?_) (a' := ?_) #[true, true, true, true, true, true, false, true, true, false, false, false, false] rfl rfl (by kernel_rfl) (fun _ _ _ h => h) (Or.inl ⟨by rfl, ?_⟩) hHeld ?_ ?_
    rotate_left
    · rintro w' ⟨s0, s1, s2, s3⟩
      go_simp
      with_reducible rfl
    rotate_left
    · simp only [Act.put, List.setIfInBounds_toArray, List.set_cons_zero, List.set_cons_succ, i64_w, i32_w]
      rfl
    refine join_ (σ := Value × Value × Nat) 1 #[true, true, true, true, true, true, true, true, true, true, true, true, false] (fun s_ => [(15, s_.1), (18, s_.2.1), (7, .pointer (some ⟨s_.2.2, 0, none⟩)), (19, .agg #[.int .i64 x.f0, .string x.f1, .int .i64 x.f2, s_.2.1, .slice none 0 0])]) (fun s_ w' => Below w5.heap.size w5 w' ∧ kI.R 3 w' w5.heap.size (fun _ => True) s_.2.1 x.f3 ∧ w'.heap[s_.2.2]? = some (.cells #[.int .i64 0, .string ⟨#[]⟩, .int .i64 0, .slice none 0 0, .slice none 0 0] 31) ∧ w5.heap.size ≤ s_.2.2) ?_ ?_
    rotate_left
    · intro hCont
      refine two_ (i := 6) (j := 11) (Ni := some 15) (Nj := some 7) #[true, true, true, true, true, true, true, true, true, false, false, false, false] #[true, true, true, true, true, true, false, true, true, false, false, true, false] rfl rfl rfl rfl (by kernel_rfl) (by decide) (by decide) (fun K hK => ?_) (fun K hK => ?_)
      · refine Kd.R_lit_step (Kd.int .i64) _ 3 ?hg (N := 15) ?hd (xs := ([] : List Int)) (inner := []) (ok := fun _ => True) (okp := fun _ => True) ?hr ?hp (fun _ hk => hk) trivial (Below.refl _ _) (Nat.le_refl _) (by simp) ?_; (case hd => rfl); (case hg => rfl); (case hr => first | (go_simp; done) | (go_simp; rfl)); (case hp => exact (Reps.none _ _))
        intro v0 w6 ho0 hb6 hg6 hn6
        clear hg6 hn6
        refine hK.out _ _ ⟨ck0 hb6 P0.out, ck0 hb6 P1.out, ck0 hb6 P2.out, ck0 hb6 P3.out⟩ (fun hHeld => ?_)
        clear hK K
        refine norm_ (a' := ?_) ?_ ?_
        rotate_left
        · show Act.put _ (some 15) _ = _
          simp only [Act.put, List.setIfInBounds_toArray, List.set_cons_zero, List.set_cons_succ, i64_w, i32_w]
          rfl
        refine two_ (i := 9) (j := 11) (Ni := some 18) (Nj := some 7) #[true, true, true, true, true, true, true, true, true, true, false, false, false] #[true, true, true, true, true, true, true, true, true, false, false, true, false] rfl rfl rfl rfl (by kernel_rfl) (by decide) (by decide) (fun K hK => ?_) (fun K hK => ?_)
        · refine Kd.R_append_rows_step (Kd.int .i64) (w0 := w5) w5.heap.size (by rfl) (.tmp 15) (.tmp 17) 23 3 (.int .i64 0) 8 rfl Try.underlying23 infoI rfl (by decide) (by omega) v0 [] x.f3 _ _ _ (fun _ => True) (fun _ => False) rfl rfl ho0 (Kd.C_below HI.out.g3 (below_step HB0.out hb6)) (fun _ _ h => h) (fun _ h => h.elim) (fun _ _ => trivial) hb6 hb6.size (by have := HT.out; have := scTot x; simp; omega) ?_
          intro v3 w7 ho3 hb7 hg7 hat7
          rw [List.nil_append] at ho3
          obtain ⟨D3, e3, rfl⟩ := Kd.R_slice ho3
          refine hK.out _ _ ⟨ck0 hb7 P0.out, ck0 hb7 P1.out, ck0 hb7 P2.out, ck0 hb7 P3.out⟩ (fun hHeld => ?_)
          clear hK K
          refine norm_ (a' := ?_) ?_ ?_
          rotate_left
          · show Act.put _ (some 18) _ = _
            simp only [Act.put, List.setIfInBounds_toArray, List.set_cons_zero, List.set_cons_succ, i64_w, i32_w]
            rfl
          refine pure_ (i := 10) (N := some 19) (v := ?_) (a' := ?_) #[true, true, true, true, true, true, true, true, true, true, true, false, false] rfl rfl (by kernel_rfl) (fun _ _ _ h => h) (Or.inl ⟨by rfl, ?_⟩) ?_ ?_
          rotate_left
          · intro w'
            go_simp
            with_reducible rfl
          rotate_left
          · simp only [Act.put, List.setIfInBounds_toArray, List.set_cons_zero, List.set_cons_succ, i64_w, i32_w]
            rfl
          refine one_ (i := 11) (N := some 7) #[true, true, true, true, true, true, true, true, true, true, true, true, false] rfl rfl (by kernel_rfl) (by decide) (fun K hK => ?_)
          refine box_step ?hg (N := 7) ?hd (cs := #[.int .i64 0, .string ⟨#[]⟩, .int .i64 0, .slice none 0 0, .slice none 0 0]) (t := 31) ?hr ?_; (case hd => rfl); (case hg => rfl); (case hr => first | (go_simp; done) | (go_simp; rfl))
          intro g3 hg w8 hbox hb8
          have hb9 := below_step hb7 hb8
          refine hK.out _ _ ⟨ck0 hb9 P0.out, ck0 hb9 P1.out, ck0 hb9 P2.out, ck0 hb9 P3.out⟩ (fun hHeld => ?_)
          clear hK K
          refine norm_ (a' := ?_) ?_ ?_
          rotate_left
          · show Act.put _ (some 7) _ = _
            simp only [Act.put, List.setIfInBounds_toArray, List.set_cons_zero, List.set_cons_succ, i64_w, i32_w]
            rfl
          exact norm_ (by simp only [putAll, Act.put, List.setIfInBounds_toArray, List.set_cons_zero, List.set_cons_succ]) (hCont (v0, .slice D3 x.f3.length e3, g3) _ ⟨hb9, Kd.R_below ho3 hb8, hbox, hg ▸ hb7.size⟩)
        · refine box_step ?hg (N := 7) ?hd (cs := #[.int .i64 0, .string ⟨#[]⟩, .int .i64 0, .slice none 0 0, .slice none 0 0]) (t := 31) ?hr ?_; (case hd => rfl); (case hg => rfl); (case hr => first | (go_simp; done) | (go_simp; rfl))
          intro g3 hg w7 hbox hb7
          have hb8 := below_step hb6 hb7
          have ho8 := Kd.R_below ho0 hb7
          have hne := Kd.R_ne ho8 hbox (by decide)
          refine hK.out _ _ ⟨ck0 hb8 P0.out, ck0 hb8 P1.out, ck0 hb8 P2.out, ck0 hb8 P3.out⟩ (fun hHeld => ?_)
          clear hK K
          refine norm_ (a' := ?_) ?_ ?_
          rotate_left
          · show Act.put _ (some 7) _ = _
            simp only [Act.put, List.setIfInBounds_toArray, List.set_cons_zero, List.set_cons_succ, i64_w, i32_w]
            rfl
          refine one_ (i := 9) (N := some 18) #[true, true, true, true, true, true, true, true, true, true, false, true, false] rfl rfl (by kernel_rfl) (by decide) (fun K hK => ?_)
          refine Kd.R_append_rows_step (Kd.int .i64) (w0 := w5) w5.heap.size (by rfl) (.tmp 15) (.tmp 17) 23 3 (.int .i64 0) 8 rfl Try.underlying23 infoI rfl (by decide) (by omega) v0 [] x.f3 _ _ _ (fun _ => True) (fun _ => False) rfl rfl ho8 (Kd.C_below HI.out.g3 (below_step HB0.out hb8)) (fun _ _ h => h) (fun _ h => h.elim) (fun _ _ => trivial) hb8 hb8.size (by have := HT.out; have := scTot x; simp; omega) ?_
          intro v3 w9 ho3 hb9 hg9 hat9
          rw [List.nil_append] at ho3
          obtain ⟨D3, e3, rfl⟩ := Kd.R_slice ho3
          refine hK.out _ _ ⟨ck0 hb9 P0.out, ck0 hb9 P1.out, ck0 hb9 P2.out, ck0 hb9 P3.out⟩ (fun hHeld => ?_)
          clear hK K
          refine norm_ (a' := ?_) ?_ ?_
          rotate_left
          · show Act.put _ (some 18) _ = _
            simp only [Act.put, List.setIfInBounds_toArray, List.set_cons_zero, List.set_cons_succ, i64_w, i32_w]
            rfl
          refine pure_ (i := 10) (N := some 19) (v := ?_) (a' := ?_) #[true, true, true, true, true, true, true, true, true, true, true, true, false] rfl rfl (by kernel_rfl) (fun _ _ _ h => h) (Or.inl ⟨by rfl, ?_⟩) ?_ ?_
          rotate_left
          · intro w'
            go_simp
            with_reducible rfl
          rotate_left
          · simp only [Act.put, List.setIfInBounds_toArray, List.set_cons_zero, List.set_cons_succ, i64_w, i32_w]
            rfl
          exact norm_ (by simp only [putAll, Act.put, List.setIfInBounds_toArray, List.set_cons_zero, List.set_cons_succ]) (hCont (v0, .slice D3 x.f3.length e3, g3) _ ⟨hb9, ho3, blk_grown hbox hg9 hne, hg ▸ hb6.size⟩)
      · refine box_step ?hg (N := 7) ?hd (cs := #[.int .i64 0, .string ⟨#[]⟩, .int .i64 0, .slice none 0 0, .slice none 0 0]) (t := 31) ?hr ?_; (case hd => rfl); (case hg => rfl); (case hr => first | (go_simp; done) | (go_simp; rfl))
        intro g3 hg w6 hbox hb6
        refine hK.out _ _ ⟨ck0 hb6 P0.out, ck0 hb6 P1.out, ck0 hb6 P2.out, ck0 hb6 P3.out⟩ (fun hHeld => ?_)
        clear hK K
        refine norm_ (a' := ?_) ?_ ?_
        rotate_left
        · show Act.put _ (some 7) _ = _
          simp only [Act.put, List.setIfInBounds_toArray, List.set_cons_zero, List.set_cons_succ, i64_w, i32_w]
          rfl
        refine one_ (i := 6) (N := some 15) #[true, true, true, true, true, true, true, true, true, false, false, true, false] rfl rfl (by kernel_rfl) (by decide) (fun K hK => ?_)
        refine Kd.R_lit_step (Kd.int .i64) _ 3 ?hg (N := 15) ?hd (xs := ([] : List Int)) (inner := []) (ok := fun _ => True) (okp := fun _ => True) ?hr ?hp (fun _ hk => hk) trivial (Below.refl _ _) (Nat.le_refl _) (by simp) ?_; (case hd => rfl); (case hg => rfl); (case hr => first | (go_simp; done) | (go_simp; rfl)); (case hp => exact (Reps.none _ _))
        intro v0 w7 ho0 hb7 hg7 hn7
        have hbox7 := blk_below hbox hb7
        have hb8 := below_step hb6 hb7
        have ho8 := Kd.R_lower ho0 hb6.size
        have hne := Kd.R_ne ho0 hbox7 (by decide)
        refine hK.out _ _ ⟨ck0 hb8 P0.out, ck0 hb8 P1.out, ck0 hb8 P2.out, ck0 hb8 P3.out⟩ (fun hHeld => ?_)
        clear hK K
        refine norm_ (a' := ?_) ?_ ?_
        rotate_left
        · show Act.put _ (some 15) _ = _
          simp only [Act.put, List.setIfInBounds_toArray, List.set_cons_zero, List.set_cons_succ, i64_w, i32_w]
          rfl
        refine one_ (i := 9) (N := some 18) #[true, true, true, true, true, true, true, true, true, true, false, true, false] rfl rfl (by kernel_rfl) (by decide) (fun K hK => ?_)
        refine Kd.R_append_rows_step (Kd.int .i64) (w0 := w5) w5.heap.size (by rfl) (.tmp 15) (.tmp 17) 23 3 (.int .i64 0) 8 rfl Try.underlying23 infoI rfl (by decide) (by omega) v0 [] x.f3 _ _ _ (fun _ => True) (fun _ => False) rfl rfl ho8 (Kd.C_below HI.out.g3 (below_step HB0.out hb8)) (fun _ _ h => h) (fun _ h => h.elim) (fun _ _ => trivial) hb8 hb8.size (by have := HT.out; have := scTot x; simp; omega) ?_
        intro v3 w9 ho3 hb9 hg9 hat9
        rw [List.nil_append] at ho3
        obtain ⟨D3, e3, rfl⟩ := Kd.R_slice ho3
        refine hK.out _ _ ⟨ck0 hb9 P0.out, ck0 hb9 P1.out, ck0 hb9 P2.out, ck0 hb9 P3.out⟩ (fun hHeld => ?_)
        clear hK K
        refine norm_ (a' := ?_) ?_ ?_
        rotate_left
        · show Act.put _ (some 18) _ = _
          simp only [Act.put, List.setIfInBounds_toArray, List.set_cons_zero, List.set_cons_succ, i64_w, i32_w]
          rfl
        refine pure_ (i := 10) (N := some 19) (v := ?_) (a' := ?_) #[true, true, true, true, true, true, true, true, true, true, true, true, false] rfl rfl (by kernel_rfl) (fun _ _ _ h => h) (Or.inl ⟨by rfl, ?_⟩) ?_ ?_
        rotate_left
        · intro w'
          go_simp
          with_reducible rfl
        rotate_left
        · simp only [Act.put, List.setIfInBounds_toArray, List.set_cons_zero, List.set_cons_succ, i64_w, i32_w]
          rfl
        exact norm_ (by simp only [putAll, Act.put, List.setIfInBounds_toArray, List.set_cons_zero, List.set_cons_succ]) (hCont (v0, .slice D3 x.f3.length e3, g3) _ ⟨hb9, ho3, blk_grown hbox7 hg9 hne, Nat.le_of_eq hg.symm⟩)
    rintro ⟨v0, v3, g3⟩ wz ⟨hbz, ho3, hbox, hg3⟩
    dsimp only at ho3 hbox hg3
    have hHeld : True := trivial
    refine norm_ (a' := ?_) ?_ ?_
    rotate_left
    · simp only [putAll, Act.put, List.setIfInBounds_toArray, List.set_cons_zero, List.set_cons_succ]
      rfl
    have K1z := blk_below KB1.out hbz
    have hl1 := blk_lt KB1.out
    have hne3 := Kd.R_ne ho3 hbox (by decide)
    obtain ⟨D3, e3, rfl⟩ := Kd.R_slice ho3
    obtain ⟨st1, st2, st3⟩ := st5 hbox (.int .i64 x.f0) (.string x.f1) (.int .i64 x.f2) (.slice D3 x.f3.length e3) (.slice none 0 0)
    have hS5 := fm_cells ((st2 w.heap.size (by omega)).trans K1z)
    have HCP := Lib.hid (Cp.start (w := w) KB1.out KB2.out HB0.out HSZ.out hbz ho3 hg3 hne3 st1 st2 (st3 _ _ hbz hg3))
    obtain ⟨z0, z1, z2, z3, z4⟩ := fm_cells hbox
    obtain ⟨f0, f1, f2, f3, f4⟩ := fm_free hbox
    clear hbz ho3 hbox hg3 K1z hl1 hne3 st1 st2 st3 KB1 KB2 HB0 HSZ P0 P1 P2 P3
    refine one_ (i := 12) (N := none) #[true, true, true, true, true, true, true, true, true, true, true, true, true] rfl rfl (by kernel_rfl) (by decide) (fun K hK => ?_)
    refine skip_ (w1 := ?_) (by rfl) rfl ?_ ?_
    rotate_left
    · go_simp
      rfl
    refine hK.out _ _ ⟨hS5.1, hS5.2.1, hS5.2.2.1, hS5.2.2.2.1⟩ (fun hHeld => ?_)
    clear hK K z0 z1 z2 z3 z4 f0 f1 f2 f3 f4 hS5
    refine done_ (by kernel_rfl) ?_
    generalize World.setCell _ _ _ = wq at HCP hHeld ⊢
    clear hHeld
    obtain ⟨l0, l1, l2, l3, l4⟩ := fm_cells HCP.out.fr.k1
    go_upto_if 22 with fail
    (try simp only [Act.put, List.setIfInBounds_toArray, List.set_cons_zero, List.set_cons_succ])
    go_cut [] (fun wc => ∃ (sc : List Int) (D3 : Option Addr) (e3 : Nat), Aside0 (sc = if x.f0 = 1 then wayS n way x.f3 else []) ∧ Aside0 (Cp w (.cells #[.int .i64 x.f0, .string x.f1, .int .i64 x.f2, .slice A3 x.f3.length c3, .slice A4 x.f4.length c4] 31) (.cells #[.int .i64 0, .string ⟨#[]⟩, .int .i64 0, .slice none 0 0, .slice none 0 0] 31) g3 x.f0 x.f1 x.f2 sc [] (.slice D3 sc.length e3) (.slice none 0 0) [] [] wc))
    case first =>
      by_cases h1 : x.f0 = 1
      · have t1 : (x.f0 == 1) = true := beq_iff_eq.mpr h1
        obtain ⟨s2, s1⟩ := HA.out.at h1
        have HL := Lib.hid s1
        have HS := Lib.hid s2
        have HX1 := Lib.hid h1
        clear h1 s1 s2
        (first | rw [t1] | skip)
        by_cases w2 : way = 2
        · have t2 : (way == 2) = true := beq_iff_eq.mpr w2
          have HY2 := Lib.hid w2
          clear w2
          go_wp2_with fail
          refine (l2Take_any x.f3 n A3 c3 _ (Kd.C_below HI.out.g3 HCP.out.fr.b) HI.out.l3 (by have := HL.out; omega)).mono ?_
          rintro e w5 ⟨v0, rfl, hr5, hb5⟩
          obtain ⟨D5, e5, rfl⟩ := Kd.R_slice hr5
          have HR5 := Aside0.mk hr5
          have HB5 := Lib.hid hb5
          have z3 := (fm_cells (HCP.out.later HB5.out).fr.k3).2.2.2.1
          have f3 := (fm_free (HCP.out.later HB5.out).fr.k3).2.2.2.1
          clear hr5 hb5
          go_wp2
          go_meet
          case rel => exact ⟨_, _, _, ⟨by rw [if_pos HX1.out, wayS, if_pos HY2.out]⟩, ⟨HCP.out.rescope HB5.out HR5.out⟩⟩
        · have t2 : (way == 2) = false := beq_eq_false_iff_ne.mpr w2
          have HY2 := Lib.hid w2
          clear w2
          by_cases w1 : way = 1
          · have t3 : (way == 1) = true := beq_iff_eq.mpr w1
            have HY1 := Lib.hid w1
            clear w1
            go_wp2_with fail
            refine (l2Has_any x.f3 n A3 c3 _ (Kd.C_below HI.out.g3 HCP.out.fr.b) HI.out.l3).mono ?_
            rintro e w4 ⟨rfl, hb4⟩
            have HB4 := Lib.hid hb4
            have hq4 := HCP.out.later hb4
            obtain ⟨m0, m1, m2, m3, m4⟩ := fm_cells hq4.fr.k1
            clear hb4 hq4
            by_cases hm : n ∈ x.f3
            · rw [decide_eq_true hm]
              have HM := Lib.hid hm
              clear hm
              go_wp2_with fail
              refine (l2Take_any x.f3 n A3 c3 _ (Kd.C_below HI.out.g3 (HCP.out.later HB4.out).fr.b) HI.out.l3 (by have := HL.out; omega)).mono ?_
              rintro e w5 ⟨v0, rfl, hr5, hb5⟩
              obtain ⟨D5, e5, rfl⟩ := Kd.R_slice hr5
              have HR5 := Aside0.mk (Kd.R_lower hr5 HB4.out.size)
              have HB5 := Lib.hid (below_step HB4.out hb5)
              have z3 := (fm_cells (HCP.out.later HB5.out).fr.k3).2.2.2.1
              have f3 := (fm_free (HCP.out.later HB5.out).fr.k3).2.2.2.1
              clear hr5 hb5
              go_wp2
              go_meet
              case rel => exact ⟨_, _, _, ⟨by rw [if_pos HX1.out, wayS, if_neg HY2.out, if_pos HY1.out, flipS, if_pos HM.out]⟩, ⟨HCP.out.rescope HB5.out HR5.out⟩⟩
            · rw [decide_eq_false hm]
              have HM := Lib.hid hm
              clear hm
              go_wp2_with fail
              refine (l2Put_any x.f3 n A3 c3 _ (Kd.C_below HI.out.g3 (HCP.out.later HB4.out).fr.b) HI.out.l3 HS.out (by have := HL.out; omega)).mono ?_
              rintro e w5 ⟨v0, rfl, hr5, hb5⟩
              obtain ⟨D5, e5, rfl⟩ := Kd.R_slice hr5
              have HR5 := Aside0.mk (Kd.R_lower hr5 HB4.out.size)
              have HB5 := Lib.hid (below_step HB4.out hb5)
              have z3 := (fm_cells (HCP.out.later HB5.out).fr.k3).2.2.2.1
              have f3 := (fm_free (HCP.out.later HB5.out).fr.k3).2.2.2.1
              clear hr5 hb5
              go_wp2
              go_meet
              case rel => exact ⟨_, _, _, ⟨by rw [if_pos HX1.out, wayS, if_neg HY2.out, if_pos HY1.out, flipS, if_neg HM.out]⟩, ⟨HCP.out.rescope HB5.out HR5.out⟩⟩
          · have t3 : (way == 1) = false := beq_eq_false_iff_ne.mpr w1
            have HY1 := Lib.hid w1
            clear w1
            go_wp2_with fail
            refine (l2Put_any x.f3 n A3 c3 _ (Kd.C_below HI.out.g3 HCP.out.fr.b) HI.out.l3 HS.out (by have := HL.out; omega)).mono ?_
            rintro e w5 ⟨v0, rfl, hr5, hb5⟩
            obtain ⟨D5, e5, rfl⟩ := Kd.R_slice hr5
            have HR5 := Aside0.mk hr5
            have HB5 := Lib.hid hb5
            have z3 := (fm_cells (HCP.out.later HB5.out).fr.k3).2.2.2.1
            have f3 := (fm_free (HCP.out.later HB5.out).fr.k3).2.2.2.1
            clear hr5 hb5
            go_wp2
            go_meet
            case rel => exact ⟨_, _, _, ⟨by rw [if_pos HX1.out, wayS, if_neg HY2.out, if_neg HY1.out]⟩, ⟨HCP.out.rescope HB5.out HR5.out⟩⟩
      · have t1 : (x.f0 == 1) = false := beq_eq_false_iff_ne.mpr h1
        have HX1 := Lib.hid h1
        have HX3 := Lib.hid (HA.out.no h1)
        clear h1
        (first | rw [t1] | skip)
        go_wp2
        go_meet
        case rel => exact ⟨_, _, _, ⟨by rw [if_neg HX1.out]; exact HX3.out⟩, ⟨HCP.out⟩⟩
    case rest =>
      obtain ⟨sc, D3, e3, HSC, HCP⟩ := hcut
      try go_wp2_with fail
      go_loopg [8] x.f4.length (fun kq v4 w' => ∃ i : Nat, i ≤ x.f4.length ∧ x.f4.length - i ≤ kq ∧ v4 = .int .i64 i ∧ Aside0 (∃ v inner fp, Cp w (.cells #[.int .i64 x.f0, .string x.f1, .int .i64 x.f2, .slice A3 x.f3.length c3, .slice A4 x.f4.length c4] 31) (.cells #[.int .i64 0, .string ⟨#[]⟩, .int .i64 0, .slice none 0 0, .slice none 0 0] 31) g3 x.f0 x.f1 x.f2 sc ((x.f4.take i).map (Fm.chS (wayS n way))) (.slice D3 sc.length e3) v inner fp w'))
      case atStart => exact ⟨0, Nat.zero_le _, by omega, rfl, ⟨⟨.slice none 0 0, [], [], by simpa using HCP.out⟩⟩⟩
      case round =>
        obtain ⟨i, hi, hg, rfl, HO⟩ := hrel
        by_cases hlt : i < x.f4.length
        · obtain ⟨v, inner, fp, hC⟩ := HO.out
          obtain ⟨p0, p1, p2, p3, p4⟩ := fm_cells hC.fr.k1
          obtain ⟨ad, G3, m3, G4, m4, e, g0, g1, g2, g3_, g4, hk⟩ := kid_at HI.out.g4 i hlt
          subst e
          have hkt := totL_mem (List.getElem_mem hlt)
          have hxt := HT.out
          rw [Fm.tot_eq] at hxt
          have r1 : (0 : Int) ≤ (i : Int) := by omega
          have r2 : (i : Int) < (x.f4.length : Int) := by omega
          have hlen := len_totL x.f4
          have HKT := Lib.hid (show x.f4[i].tot ≤ 1000000000 by omega)
          have HLN := Lib.hid (show x.f4.length ≤ 1000000000 by omega)
          have HK := Lib.hid hk
          have HC := Lib.hid hC
          have SK := Lib.hid (fun (W : World) (hf : Fr w (.cells #[.int .i64 x.f0, .string x.f1, .int .i64 x.f2, .slice A3 x.f3.length c3, .slice (some ad) x.f4.length c4] 31) (.cells #[.int .i64 0, .string ⟨#[]⟩, .int .i64 0, .slice none 0 0, .slice none 0 0] 31) g3 #[.int .i64 x.f0, .string x.f1, .int .i64 x.f2, (.slice D3 sc.length e3), v] W) => (⟨(fm_cells hf.k1).2.2.2.2, (fm_cells hf.k3).2.2.2.2, ck0 hf.b g0, ck0 hf.b g1, ck0 hf.b g2, ck0 hf.b g3_, ck0 hf.b g4⟩ : (fun w' => w'.cell? ⟨w.heap.size, 4, none⟩ = some (.slice (some ad) x.f4.length c4) ∧ w'.cell? ⟨g3, 4, none⟩ = some v ∧ w'.cell? (ad.add (i * 5)) = some (.int .i64 x.f4[i].f0) ∧ w'.cell? ⟨(ad.add (i * 5)).block, (ad.add (i * 5)).off + 1, none⟩ = some (.string x.f4[i].f1) ∧ w'.cell? ⟨(ad.add (i * 5)).block, (ad.add (i * 5)).off + 2, none⟩ = some (.int .i64 x.f4[i].f2) ∧ w'.cell? ⟨(ad.add (i * 5)).block, (ad.add (i * 5)).off + 3, none⟩ = some (.slice G3 x.f4[i].f3.length m3) ∧ w'.cell? ⟨(ad.add (i * 5)).block, (ad.add (i * 5)).off + 4, none⟩ = some (.slice G4 x.f4[i].f4.length m4)) W))
          clear hC hk p0 p1 p2 p3 hkt hxt hlen g0 g1 g2 g3_ g4
          go_wp2_with fail
          have HD := Lib.hid (HC.out.later (below_drew (Below.refl _ _)))
          refine start_ (n := 14) (S := fun w' => w'.cell? ⟨w.heap.size, 4, none⟩ = some (.slice (some ad) x.f4.length c4) ∧ w'.cell? ⟨g3, 4, none⟩ = some v ∧ w'.cell? (ad.add (i * 5)) = some (.int .i64 x.f4[i].f0) ∧ w'.cell? ⟨(ad.add (i * 5)).block, (ad.add (i * 5)).off + 1, none⟩ = some (.string x.f4[i].f1) ∧ w'.cell? ⟨(ad.add (i * 5)).block, (ad.add (i * 5)).off + 2, none⟩ = some (.int .i64 x.f4[i].f2) ∧ w'.cell? ⟨(ad.add (i * 5)).block, (ad.add (i * 5)).off + 3, none⟩ = some (.slice G3 x.f4[i].f3.length m3) ∧ w'.cell? ⟨(ad.add (i * 5)).block, (ad.add (i * 5)).off + 4, none⟩ = some (.slice G4 x.f4[i].f4.length m4)) (ds := [13]) #[false, false, false, false, false, false, false, false, false, false, false, false, false, false] (by kernel_rfl) rfl rfl (SK.out _ HD.out.fr) (fun hHeld => ?_)
          clear p4
          generalize wr.drew = wd at HD hHeld ⊢
          refine pure_ (i := 0) (N := some 52) (v := ?_) (a' := ?_) #[true, false, false, false, false, false, false, false, false, false, false, false, false, false] rfl rfl (by kernel_rfl) (fun _ _ _ h => h) (Or.inl ⟨by rfl, ?_⟩) ?_ ?_
          rotate_left
          · intro w'
            go_simp
            with_reducible rfl
          rotate_left
          · simp only [Act.put, List.setIfInBounds_toArray, List.set_cons_zero, List.set_cons_succ, i64_w, i32_w]
            rfl
          refine pure_ (i := 2) (N := some 54) (v := ?_) (a' := ?_) #[true, false, true, false, false, false, false, false, false, false, false, false, false, false] rfl rfl (by kernel_rfl) (fun _ _ _ h => h) (Or.inl ⟨by rfl, ?_⟩) ?_ ?_
          rotate_left
          · intro w'
            go_simp
            with_reducible rfl
          rotate_left
          · simp only [Act.put, List.setIfInBounds_toArray, List.set_cons_zero, List.set_cons_succ, i64_w, i32_w]
            rfl
          refine pure_ (i := 4) (N := some 56) (v := ?_) (a' := ?_) #[true, false, true, false, true, false, false, false, false, false, false, false, false, false] rfl rfl (by kernel_rfl) (fun _ _ _ h => h) (Or.inl ⟨by rfl, ?_⟩) ?_ ?_
          rotate_left
          · intro w'
            go_simp
            with_reducible rfl
          rotate_left
          · simp only [Act.put, List.setIfInBounds_toArray, List.set_cons_zero, List.set_cons_succ, i64_w, i32_w]
            rfl
          refine pure_ (i := 7) (N := some 59) (v := ?_) (a' := ?_) #[true, false, true, false, true, false, false, true, false, false, false, false, false, false] rfl rfl (by kernel_rfl) (fun _ _ _ h => h) (Or.inl ⟨by rfl, ?_⟩) ?_ ?_
          rotate_left
          · intro w'
            go_simp
            with_reducible rfl
          rotate_left
          · simp only [Act.put, List.setIfInBounds_toArray, List.set_cons_zero, List.set_cons_succ, i64_w, i32_w]
            rfl
          refine pure_ (i := 8) (N := some 60) (v := ?_) (a' := ?_) #[true, false, true, false, true, false, false, true, true, false, false, false, false, false] rfl rfl (by kernel_rfl) (fun _ _ _ h => h) (Or.inl ⟨by rfl, ?_⟩) ?_ ?_
          rotate_left
          · intro w'
            go_simp
            with_reducible rfl
          rotate_left
          · simp only [Act.put, List.setIfInBounds_toArray, List.set_cons_zero, List.set_cons_succ, i64_w, i32_w]
            rfl
          refine take_ (i := 1) (N := some 53) (v := ?_) (a' := ?_) #[true, true, true, false, true, false, false, true, true, false, false, false, false, false] rfl rfl (by kernel_rfl) (fun _ _ _ h => h) (Or.inl ⟨by rfl, ?_⟩) hHeld ?_ ?_
          rotate_left
          · rintro w' ⟨s0, s1, s2, s3, s4, s5, s6⟩
            go_simp
            with_reducible rfl
          rotate_left
          · simp only [Act.put, List.setIfInBounds_toArray, List.set_cons_zero, List.set_cons_succ, i64_w, i32_w]
            rfl
          refine take_ (i := 3) (N := some 55) (v := ?_) (a' := ?_) #[true, true, true, true, true, false, false, true, true, false, false, false, false, false] rfl rfl (by kernel_rfl) (fun _ _ _ h => h) (Or.inl ⟨by rfl, ?_⟩) hHeld ?_ ?_
          rotate_left
          · rintro w' ⟨s0, s1, s2, s3, s4, s5, s6⟩
            go_simp
            with_reducible rfl
          rotate_left
          · simp only [Act.put, List.setIfInBounds_toArray, List.set_cons_zero, List.set_cons_succ, i64_w, i32_w]
            rfl
          refine pure_ (i := 5) (N := some 57) (v := ?_) (a' := ?_) #[true, true, true, true, true, true, false, true, true, false, false, false, false, false] rfl rfl (by kernel_rfl) (fun _ _ _ h => h) (Or.inl ⟨by rfl, ?_⟩) ?_ ?_
          rotate_left
          · intro w'
            go_simp
            with_reducible rfl
          rotate_left
          · simp only [Act.put, List.setIfInBounds_toArray, List.set_cons_zero, List.set_cons_succ, i64_w, i32_w]
            rfl
          refine take_ (i := 6) (N := some 58) (v := ?_) (a' := ?_) #[true, true, true, true, true, true, true, true, true, false, false, false, false, false] rfl rfl (by kernel_rfl) (fun _ _ _ h => h) (Or.inl ⟨by rfl, ?_⟩) hHeld ?_ ?_
          rotate_left
          · rintro w' ⟨s0, s1, s2, s3, s4, s5, s6⟩
            go_simp
            with_reducible rfl
          rotate_left
          · simp only [Act.put, List.setIfInBounds_toArray, List.set_cons_zero, List.set_cons_succ, i64_w, i32_w]
            rfl
          refine one_ (i := 9) (N := some 61) #[true, true, true, true, true, true, true, true, true, true, false, false, false, false] rfl rfl (by kernel_rfl) (by decide) (fun K hK => ?_)
          refine goes_ Try.func121 (by kernel_rfl) rfl #[.agg #[.int .i64 x.f4[i].f0, .string x.f4[i].f1, .int .i64 x.f4[i].f2, .slice G3 x.f4[i].f3.length m3, .slice G4 x.f4[i].f4.length m4], .int .i64 n, .int .i64 way] (by rfl) rfl rfl (by (try simp only [List.map_toArray, List.map_cons, List.map_nil]); first | done | rfl) ?_
          refine (IH.out x.f4[i] (List.getElem_mem hlt) (HA.out.kid _ (List.getElem_mem hlt)) G3 m3 G4 m4 wd (HK.out.below HD.out.fr.b) HKT.out).mono ?_
          rintro e w7 ⟨u3, u4, rfl, hn, hb7⟩
          refine ⟨_, rfl, ?_⟩
          obtain ⟨J3, q3, J4, q4, rfl, rfl⟩ : ∃ J3 q3 J4 q4, u3 = .slice J3 (x.f4[i].chS (wayS n way)).f3.length q3 ∧ u4 = .slice J4 (x.f4[i].chS (wayS n way)).f4.length q4 := by
            obtain ⟨fk, hk2, _⟩ := hn
            obtain ⟨J3, q3, J4, q4, e3, e4, _⟩ := hk2.In
            exact ⟨J3, q3, J4, q4, e3, e4⟩
          have H7 := Lib.hid (HD.out.later hb7)
          have HN := Lib.hid hn
          have HLT := Lib.hid (And.intro HD.out.lt HD.out.fr.lt)
          clear hn hb7
          refine hK.out _ _ (SK.out _ H7.out.fr) (fun hHeld => ?_)
          clear hK K
          refine norm_ (a' := ?_) ?_ ?_
          rotate_left
          · show Act.put _ (some 61) _ = _
            simp only [Act.put, List.setIfInBounds_toArray, List.set_cons_zero, List.set_cons_succ, i64_w, i32_w]
            rfl
          refine one_ (i := 10) (N := some 62) #[true, true, true, true, true, true, true, true, true, true, true, false, false, false] rfl rfl (by kernel_rfl) (by decide) (fun K hK => ?_)
          refine value_ (w1 := ?_) (v := ?_) (by rfl) rfl ?_ ?_
          rotate_left 2
          · go_simp
            constructor
            · rfl
            · rfl
          refine hK.out _ _ (SK.out _ (H7.out.fr.later (below_new _ _))) (fun hHeld => ?_)
          clear hK K
          refine norm_ (a' := ?_) ?_ ?_
          rotate_left
          · show Act.put _ (some 62) _ = _
            simp only [Act.put, List.setIfInBounds_toArray, List.set_cons_zero, List.set_cons_succ, i64_w, i32_w]
            rfl
          refine one_ (i := 11) (N := some 63) #[true, true, true, true, true, true, true, true, true, true, true, true, false, false] rfl rfl (by kernel_rfl) (by decide) (fun K hK => ?_)
          have hl0 : ((x.f4.take i).map (Fm.chS (wayS n way))).length = i := by simp; omega
          refine step_append_cells (w0 := w) (W := w7) w.heap.size (by rfl) (.tmp 53) (.tmp 62) 29 31 (.agg #[.int .i64 0, .string ⟨#[]⟩, .int .i64 0, .slice none 0 0, .slice none 0 0]) 5 80 rfl Try.underlying29 infoF rfl (by decide) (by omega) v ((x.f4.take i).map (Fm.chS (wayS n way))).length inner [.int .i64 (x.f4[i].chS (wayS n way)).f0, .string (x.f4[i].chS (wayS n way)).f1, .int .i64 (x.f4[i].chS (wayS n way)).f2, .slice J3 (x.f4[i].chS (wayS n way)).f3.length q3, .slice J4 (x.f4[i].chS (wayS n way)).f4.length q4] rfl rfl rfl (by simp [Value.oneCell']) (own_base_ H7.out.o4 (fun b hb => by have := (H7.out.ge b (by simp [obs_mem, hb])).1; omega)) H7.out.fr.b H7.out.fr.b.size (by have := HLN.out; rw [hl0]; omega) ?_
          intro v' w8 ho hb8 hg8 hat8
          obtain ⟨fp', hC8⟩ := H7.out.more HLT.out.1 HLT.out.2.2 HLT.out.2.1 HN.out (own_weaken ho (Nat.zero_le _)) hg8 hat8
          have hf8 := H7.out.fr.grown hg8 (fun c hc => H7.out.ge c (by simp [obs_mem, hc]))
          have hv' : ∃ A c, v' = .slice A (((x.f4.take i).map (Fm.chS (wayS n way))).length + 1) c := by
            rcases ho with ⟨_, ⟨rfl, h0⟩ | ⟨g, cap, cur, rfl, _⟩⟩
            · exact absurd h0 (by omega)
            · exact ⟨_, _, rfl⟩
          rw [hl0] at hv'
          obtain ⟨A', c', rfl⟩ := hv'
          have H8 := Lib.hid hf8
          have HC8 := Lib.hid hC8
          clear ho hb8 hg8 hat8 hf8 hC8
          refine hK.out _ _ (SK.out _ H8.out) (fun hHeld => ?_)
          clear hK K
          refine norm_ (a' := ?_) ?_ ?_
          rotate_left
          · show Act.put _ (some 63) _ = _
            simp only [Act.put, List.setIfInBounds_toArray, List.set_cons_zero, List.set_cons_succ, i64_w, i32_w]
            rfl
          refine pure_ (i := 12) (N := some 64) (v := ?_) (a' := ?_) #[true, true, true, true, true, true, true, true, true, true, true, true, true, false] rfl rfl (by kernel_rfl) (fun _ _ _ h => h) (Or.inl ⟨by rfl, ?_⟩) ?_ ?_
          rotate_left
          · intro w'
            go_simp
            with_reducible rfl
          rotate_left
          · simp only [Act.put, List.setIfInBounds_toArray, List.set_cons_zero, List.set_cons_succ, i64_w, i32_w]
            rfl
          refine last_ (i := 13) (N := none) #[true, true, true, true, true, true, true, true, true, true, true, true, true, true] rfl rfl (by kernel_rfl) (by decide) (fun K hK => ?_)
          have z4 := (fm_cells H8.out.k3).2.2.2.2
          have f4 := (fm_free H8.out.k3).2.2.2.2
          refine skip_ (w1 := ?_) (by rfl) rfl ?_ ?_
          rotate_left
          · go_simp
            rfl
          refine hK.out _ _ ?_
          clear hK K z4 f4
          refine done_ (by kernel_rfl) ?_
          have HX := Lib.hid (show (x.f4.take i).map (Fm.chS (wayS n way)) ++ [x.f4[i].chS (wayS n way)] = (x.f4.take (i + 1)).map (Fm.chS (wayS n way)) from by rw [List.take_succ_eq_append_getElem hlt, List.map_append]; rfl)
          rw [HX.out] at HC8
          try go_wp2
          go_roundg (x.f4.length - (i + 1))
          case measure => omega
          case rel => exact ⟨i + 1, by omega, Nat.le_refl _, by go_num, ⟨⟨_, _, _, HC8.out⟩⟩⟩
        · obtain rfl : i = x.f4.length := by omega
          obtain ⟨v, inner, fp, hC⟩ := HO.out
          rw [List.take_length] at hC
          obtain ⟨A4', c4', e4', -, -⟩ := hC.tr.C hC.o4
          rw [show ((x.f4).map (Fm.chS (wayS n way))).length = x.f4.length from by simp] at e4'
          subst e4'
          obtain ⟨p0, p1, p2, p3, p4⟩ := fm_cells hC.fr.k3
          obtain ⟨y0, y1, y2, y3, y4⟩ := fm_cells hC.fr.k1
          obtain ⟨z0, z1, z2, z3, z4⟩ := fm_cells hC.fr.k2
          obtain ⟨f0, f1, f2, f3, f4⟩ := fm_free hC.fr.k2
          have hn1 : g3 ≠ w.heap.size + 1 := by have := hC.fr.h3; omega
          have hn2 : w.heap.size + 1 ≠ g3 := fun e => hn1 e.symm
          obtain ⟨st1, st2, st3⟩ := st5 hC.fr.k2 (.int .i64 x.f0) (.string x.f1) (.int .i64 x.f2) (.slice D3 sc.length e3) (.slice A4' x.f4.length c4')
          have HNF := hC.newF (st2)
          have HN := Lib.hid HNF
          have HB := Lib.hid (st3 _ _ hC.fr.b (by omega))
          clear hC HO st1 st2 st3 HNF
          go_wp2_with fail
          refine bodyPost_ret (v := .agg #[.int .i64 x.f0, .string x.f1, .int .i64 x.f2, (.slice D3 sc.length e3), .slice A4' x.f4.length c4']) (by simp [results, Try.results121, go_sem, z0, z1, z2, z3, z4]) rfl ?_
          rw [Fm.chS_eq, ← HSC.out]
          exact ⟨_, _, by simp, HN.out, HB.out⟩
theorem l2Change_any (n way : Int) (x : Fm) (hx : ∃ m, IsOk m x) (A3 : Option Addr) (c3 : Nat) (A4 : Option Addr) (c4 : Nat) (w : World) (hin : FmIn w x A3 c3 A4 c4) (ht : x.tot ≤ 1000000000) :
    Calls Try.prog 121 #[.agg #[.int .i64 x.f0, .string x.f1, .int .i64 x.f2, .slice A3 x.f3.length c3, .slice A4 x.f4.length c4], .int .i64 n, .int .i64 way] w (RetF w (x.chS (wayS n way))) := l2ChangeS_any n way x (SrtF.ofOk x hx) A3 c3 A4 c4 w hin ht
end Go.Proofs.Yteonncnhhccgeaa
end
section
namespace Go.Proofs.Yteonncnhhccgeaa
open Go.RowKit Go.Proofs.YteonncnhhccgeaaW.PrintWords Go.Proofs.YteonncnhhccgeaaW.PrintLast Go.Proofs.YteonncnhhccgeaaW.PrintMore
set_option linter.unusedVariables false
set_option linter.unusedSimpArgs false
theorem RetF.T {w : World} {x : Fm} {e : Ending} {w' : World} (h : RetF w x e w') : ∃ v3 v4, e = .returned (.agg #[.int .i64 x.f0, .string x.f1, .int .i64 x.f2, v3, v4]) ∧ tellsNew.T w.heap.size w' x v3 v4 ∧ Below w.heap.size w w' := h
set_option maxHeartbeats 1000000 in
theorem formOr_any (x : Fm) (A3 : Option Addr) (c3 : Nat) (A4 : Option Addr) (c4 : Nat) (w : World) (hin : FmIn w x A3 c3 A4 c4) (ht : x.tot ≤ 1048576) : Calls Try.prog 116 #[.agg #[.int .i64 x.f0, .string x.f1, .int .i64 x.f2, .slice A3 x.f3.length c3, .slice A4 x.f4.length c4]] w (RetT tellsNew w (orN x)) := by
  have HI := Lib.hid hin
  have HT0 := Lib.hid ht
  clear hin ht
  go_enter Try.func116, Try.ntmps116
  go_wp2_with fail
  refine (implValid_any x A3 c3 A4 c4 _ (HI.out.below (below_step (below_new _ _) (below_new _ _))) HT0.out).mono ?_
  rintro e w1 ⟨rfl, hb⟩
  obtain ⟨k0, k1, b1⟩ := two_new hb
  have K0 := Lib.hid k0
  have K1 := Lib.hid k1
  have B1 := Lib.hid b1
  clear hb k0 k1 b1
  by_cases hx : FmOk x
  · rw [← pB_yes hx]
    have HX := Lib.hid hx
    clear hx
    obtain ⟨p0, p1, p2, p3, p4⟩ := fm_cells K0.out
    go_wp2_with fail
    clear p0 p1 p2 p3 p4
    refine (copyForm_any x A3 c3 A4 c4 _ (HI.out.below B1.out) (by have := HT0.out; omega)).mono ?_
    intro e w2 hr
    obtain ⟨v3, v4, rfl, hT, hb2⟩ := hr.T
    obtain ⟨D3, e3, D4, e4, rfl, rfl⟩ := tellsNew.form hT
    obtain ⟨q0, q1, q2, q3, q4⟩ := fm_cells (blk_below K1.out hb2)
    obtain ⟨f0, f1, f2, f3, f4⟩ := fm_free (blk_below K1.out hb2)
    have HT := Lib.hid hT
    have HB := Lib.hid (below_step B1.out hb2)
    have HL := Lib.hid (blk_lt K1.out)
    clear hT hb2 hr
    go_wp2_with fail
    refine bodyPost_ret (v := .tuple #[.agg #[.int .i64 x.f0, .string x.f1, .int .i64 x.f2, .slice D3 x.f3.length e3, .slice D4 x.f4.length e4], .bool true]) (by simp [results, Try.results116, go_sem, q0, q1, q2, q3, q4, f0, f1, f2, f3, f4]) rfl ?_
    rw [orN_yes HX.out]
    refine ⟨_, _, rfl, tellsNew.low B1.out.size (tellsNew.move HT.out (fun b hb => ?_)), ?_⟩
    · have := HL.out
      repeat rw [Below.heap_setCell _ _ _ b (by show b ≠ w.heap.size + 1; omega)]
    · repeat (refine below_set ?_ (by omega))
      exact HB.out
  · rw [← pB_no hx]
    have HX := Lib.hid hx
    clear hx
    obtain ⟨q0, q1, q2, q3, q4⟩ := fm_cells K1.out
    obtain ⟨f0, f1, f2, f3, f4⟩ := fm_free K1.out
    have HB9 := Lib.hid B1.out
    go_wp2_with fail
    refine bodyPost_ret (v := .tuple #[.agg #[.int .i64 0, .string ⟨#[]⟩, .int .i64 0, .slice none 0 0, .slice none 0 0], .bool false]) (by simp [results, Try.results116, go_sem, q0, q1, q2, q3, q4, f0, f1, f2, f3, f4]) rfl ?_
    rw [orN_no HX.out]
    refine ⟨_, _, rfl, ⟨[], trz _, by simp, by simp⟩, ?_⟩
    repeat (refine below_set ?_ (by omega))
    exact HB9.out
set_option maxHeartbeats 2000000 in
theorem rescoped_new (fv : Fv) (g : List Int → List Int) (n : Int) (x : Fm) (A3 : Option Addr) (c3 : Nat) (A4 : Option Addr) (c4 : Nat) (w : World) (hin : FmIn w x A3 c3 A4 c4) (ht : x.tot ≤ 1048576) (hw : Below fv.w0.heap.size fv.w0 w) (hg : ∀ l, ScOk l → fv.f l = some (g l) ∧ (g l).length ≤ 1000) :
    Calls Try.prog 85 #[.agg #[.int .i64 x.f0, .string x.f1, .int .i64 x.f2, .slice A3 x.f3.length c3, .slice A4 x.f4.length c4], .int .i64 n, .func (.func fv.g) #[] fv.lb] w (RetT tellsNew w (reS g n x)) := by
  have HI := Lib.hid hin
  have HT0 := Lib.hid ht
  have HW := Lib.hid hw
  have HG := Lib.hid hg
  clear hin ht hw hg
  go_enter Try.func85, Try.ntmps85
  go_wp2_with fail
  refine (implValid_any x A3 c3 A4 c4 _ (HI.out.below (below_step (below_new _ _) (below_new _ _))) HT0.out).mono ?_
  rintro e w1 ⟨rfl, hb⟩
  obtain ⟨k0, k1, b1⟩ := two_new hb
  have K0 := Lib.hid k0
  have K1 := Lib.hid k1
  have B1 := Lib.hid b1
  clear hb k0 k1 b1
  by_cases hx : FmOk x
  · rw [← pB_yes hx]
    have HX := Lib.hid hx
    clear hx
    go_wp2_with fail
    refine (within_any n 1 99 w1).mono ?_
    rintro e w2 ⟨rfl, hb2⟩
    have K02 := Lib.hid (blk_below K0.out hb2)
    have K12 := Lib.hid (blk_below K1.out hb2)
    have B2 := Lib.hid (below_step B1.out hb2)
    clear hb2
    by_cases hn : 1 ≤ n ∧ n ≤ 99
    · rw [decide_eq_true hn]
      have HN9 := Lib.hid hn
      clear hn
      obtain ⟨p0, p1, p2, p3, p4⟩ := fm_cells K02.out
      go_wp2_with fail
      clear p0 p1 p2 p3 p4
      have hs := fmOk_sc HX.out
      refine (dressed_any fv g x (hs.imp (fun y hy => (HG.out _ hy).1)) A3 c3 A4 c4 w2 (HI.out.below B2.out) (by have := HT0.out; omega) (below_step HW.out B2.out)).mono ?_
      intro e w3 hr
      obtain ⟨v3, v4, rfl, hT, hb3⟩ := hr.T
      obtain ⟨D3, e3, D4, e4, rfl, rfl⟩ := tellsNew.form hT
      have h1 := tot_chS HX.out.1 g 1000 (hs.imp (fun y hy => (HG.out _ hy).2))
      have h2 : (13 + 1000) * x.size ≤ 1013 * 400 := Nat.mul_le_mul (by omega) HX.out.2
      have hin3 : FmIn w3 (x.chS g) D3 e3 D4 e4 := by
        obtain ⟨fp, htr, _, _⟩ := hT
        obtain ⟨G3, m3, G4, m4, q1, q2, hin⟩ := htr.In
        injection q1 with a1 _ a2
        injection q2 with a3 _ a4
        subst a1 a2 a3 a4
        exact hin
      have K13 := Lib.hid (blk_below K12.out hb3)
      have B3 := Lib.hid (below_step B2.out hb3)
      have HF := Lib.hid (formOr_any (x.chS g) D3 e3 D4 e4 w3 hin3 (by omega))
      have HL := Lib.hid (blk_lt K12.out)
      have HLW := Lib.hid (show w2.heap.size ≤ w3.heap.size from hb3.size)
      clear hs h1 h2 hin3 hT hb3 hr
      go_wp2_with fail
      refine HF.out.mono ?_
      rintro e w4 ⟨v3, v4, rfl, hT, hb4⟩
      obtain ⟨E3, k3, E4, k4, rfl, rfl⟩ := tellsNew.form hT
      obtain ⟨q0, q1, q2, q3, q4⟩ := fm_cells (blk_below K13.out hb4)
      obtain ⟨f0, f1, f2, f3, f4⟩ := fm_free (blk_below K13.out hb4)
      have HT := Lib.hid hT
      have HB := Lib.hid (below_step B3.out hb4)
      clear hT hb4
      go_wp2_with fail
      refine bodyPost_ret (v := .tuple #[.agg #[.int .i64 (orN (x.chS g)).1.f0, .string (orN (x.chS g)).1.f1, .int .i64 (orN (x.chS g)).1.f2, .slice E3 (orN (x.chS g)).1.f3.length k3, .slice E4 (orN (x.chS g)).1.f4.length k4], .bool (orN (x.chS g)).2]) (by simp [results, Try.results85, go_sem, q0, q1, q2, q3, q4, f0, f1, f2, f3, f4]) rfl ?_
      rw [reS_in HX.out HN9.out.1 HN9.out.2]
      refine ⟨_, _, rfl, tellsNew.low B3.out.size (tellsNew.move HT.out (fun b hb => ?_)), ?_⟩
      · have := HL.out
        have := HLW.out
        repeat rw [Below.heap_setCell _ _ _ b (by show b ≠ w.heap.size + 1; omega)]
      · repeat (refine below_set ?_ (by omega))
        exact HB.out
    · rw [decide_eq_false hn]
      have HN9 := Lib.hid hn
      clear hn
      obtain ⟨q0, q1, q2, q3, q4⟩ := fm_cells K12.out
      obtain ⟨f0, f1, f2, f3, f4⟩ := fm_free K12.out
      have HB9 := Lib.hid B2.out
      go_wp2_with fail
      refine bodyPost_ret (v := .tuple #[.agg #[.int .i64 0, .string ⟨#[]⟩, .int .i64 0, .slice none 0 0, .slice none 0 0], .bool false]) (by simp [results, Try.results85, go_sem, q0, q1, q2, q3, q4, f0, f1, f2, f3, f4]) rfl ?_
      rw [reS_out (fun h => HN9.out h.2)]
      refine ⟨_, _, rfl, ⟨[], trz _, by simp, by simp⟩, ?_⟩
      repeat (refine below_set ?_ (by omega))
      exact HB9.out
  · rw [← pB_no hx]
    have HX := Lib.hid hx
    clear hx
    obtain ⟨q0, q1, q2, q3, q4⟩ := fm_cells K1.out
    obtain ⟨f0, f1, f2, f3, f4⟩ := fm_free K1.out
    have HB9 := Lib.hid B1.out
    go_wp2_with fail
    refine bodyPost_ret (v := .tuple #[.agg #[.int .i64 0, .string ⟨#[]⟩, .int .i64 0, .slice none 0 0, .slice none 0 0], .bool false]) (by simp [results, Try.results85, go_sem, q0, q1, q2, q3, q4, f0, f1, f2, f3, f4]) rfl ?_
    rw [reS_out (fun h => HX.out h.1)]
    refine ⟨_, _, rfl, ⟨[], trz _, by simp, by simp⟩, ?_⟩
    repeat (refine below_set ?_ (by omega))
    exact HB9.out
set_option maxHeartbeats 2000000 in
theorem l2Done_any (n way : Int) (x : Fm) (A3 : Option Addr) (c3 : Nat) (A4 : Option Addr) (c4 : Nat) (w : World) (hin : FmIn w x A3 c3 A4 c4) (ht : x.tot ≤ 1048576) :
    Calls Try.prog 88 #[.agg #[.int .i64 x.f0, .string x.f1, .int .i64 x.f2, .slice A3 x.f3.length c3, .slice A4 x.f4.length c4], .int .i64 n, .int .i64 way] w (RetT tellsNew w (reS (wayS n way) n x)) := by
  have HI := Lib.hid hin
  have HT0 := Lib.hid ht
  clear hin ht
  go_enter Try.func88, Try.ntmps88
  go_wp2_with fail
  refine (specValid_any x A3 c3 A4 c4 _ (HI.out.below (below_step (below_new _ _) (below_new _ _))) (by have := HT0.out; omega)).mono ?_
  rintro e w1 ⟨rfl, hb⟩
  obtain ⟨k0, k1, b1⟩ := two_new hb
  have K0 := Lib.hid k0
  have K1 := Lib.hid k1
  have B1 := Lib.hid b1
  clear hb k0 k1 b1
  by_cases hx : FmOk x
  · rw [← pB_yes hx]
    have HX := Lib.hid hx
    clear hx
    by_cases h1 : n < 1
    · have t1 : decide (n < 1) = true := decide_eq_true h1
      have HN9 := Lib.hid (show ¬ (FmOk x ∧ 1 ≤ n ∧ n ≤ 99) from fun h => by omega)
      clear h1
      obtain ⟨q0, q1, q2, q3, q4⟩ := fm_cells K1.out
      obtain ⟨f0, f1, f2, f3, f4⟩ := fm_free K1.out
      have HB9 := Lib.hid B1.out
      go_wp2_with fail
      refine bodyPost_ret (v := .tuple #[.agg #[.int .i64 0, .string ⟨#[]⟩, .int .i64 0, .slice none 0 0, .slice none 0 0], .bool false]) (by simp [results, Try.results88, go_sem, q0, q1, q2, q3, q4, f0, f1, f2, f3, f4]) rfl ?_
      rw [reS_out HN9.out]
      refine ⟨_, _, rfl, ⟨[], trz _, by simp, by simp⟩, ?_⟩
      repeat (refine below_set ?_ (by omega))
      exact HB9.out
    have t1 : decide (n < 1) = false := decide_eq_false h1
    by_cases h2 : n > 99
    · have t2 : decide (n > 99) = true := decide_eq_true h2
      have t2' : decide (99 < n) = true := decide_eq_true h2
      have HN9 := Lib.hid (show ¬ (FmOk x ∧ 1 ≤ n ∧ n ≤ 99) from fun h => by omega)
      clear h1 h2
      obtain ⟨q0, q1, q2, q3, q4⟩ := fm_cells K1.out
      obtain ⟨f0, f1, f2, f3, f4⟩ := fm_free K1.out
      have HB9 := Lib.hid B1.out
      go_wp2_with fail
      refine bodyPost_ret (v := .tuple #[.agg #[.int .i64 0, .string ⟨#[]⟩, .int .i64 0, .slice none 0 0, .slice none 0 0], .bool false]) (by simp [results, Try.results88, go_sem, q0, q1, q2, q3, q4, f0, f1, f2, f3, f4]) rfl ?_
      rw [reS_out HN9.out]
      refine ⟨_, _, rfl, ⟨[], trz _, by simp, by simp⟩, ?_⟩
      repeat (refine below_set ?_ (by omega))
      exact HB9.out
    have t2 : decide (n > 99) = false := decide_eq_false h2
    have t2' : decide (99 < n) = false := decide_eq_false h2
    have HRE := Lib.hid (reS_in (g := wayS n way) HX.out (show 1 ≤ n by omega) (show n ≤ 99 by omega))
    clear h1 h2
    obtain ⟨p0, p1, p2, p3, p4⟩ := fm_cells K0.out
    go_wp2_with fail
    clear p0 p1 p2 p3 p4
    refine (l2Change_any n way x ⟨40, HX.out.1⟩ A3 c3 A4 c4 w1 (HI.out.below B1.out) (by have := HT0.out; omega)).mono ?_
    intro e w3 hr
    obtain ⟨v3, v4, rfl, hT, hb3⟩ := hr.T
    obtain ⟨D3, e3, D4, e4, rfl, rfl⟩ := tellsNew.form hT
    have hs := fmOk_sc HX.out
    have z1 := tot_chS HX.out.1 (wayS n way) 1000 (hs.imp (fun y hy => by have := wayS_len n way y.f3; have := hy.1; omega))
    have z2 : (13 + 1000) * x.size ≤ 1013 * 400 := Nat.mul_le_mul (by omega) HX.out.2
    have hin3 : FmIn w3 (x.chS (wayS n way)) D3 e3 D4 e4 := by
      obtain ⟨fp, htr, _, _⟩ := hT
      obtain ⟨G3, m3, G4, m4, q1, q2, hin⟩ := htr.In
      injection q1 with a1 _ a2
      injection q2 with a3 _ a4
      subst a1 a2 a3 a4
      exact hin
    have K13 := Lib.hid (blk_below K1.out hb3)
    have B3 := Lib.hid (below_step B1.out hb3)
    have HF := Lib.hid (fun W hb => specValid_any (x.chS (wayS n way)) D3 e3 D4 e4 W (hin3.below hb) (by omega))
    have HL := Lib.hid (blk_lt K1.out)
    have HLW := Lib.hid (show w1.heap.size ≤ w3.heap.size from hb3.size)
    have HT := Lib.hid hT
    clear hs z1 z2 hin3 hT hb3 hr
    go_wp2_with fail
    refine (HF.out _ (below_new _ _)).mono ?_
    rintro e w4 ⟨rfl, hb4⟩
    obtain ⟨k8, b4⟩ := one_new hb4
    have K8 := Lib.hid k8
    have K14 := Lib.hid (blk_below K13.out b4)
    have B4 := Lib.hid (below_step B3.out b4)
    have HT4 := Lib.hid (show NewF w1.heap.size w4 (x.chS (wayS n way)) (.slice D3 (x.chS (wayS n way)).f3.length e3) (.slice D4 (x.chS (wayS n way)).f4.length e4) from by
      obtain ⟨fp, htr, hnd, hge⟩ := HT.out
      exact ⟨fp, htr.later b4, hnd, hge⟩)
    have HL3 := Lib.hid (blk_lt k8)
    clear hb4 k8 b4
    by_cases hy : FmOk (x.chS (wayS n way))
    · rw [← pB_yes hy]
      have HY := Lib.hid hy
      clear hy
      obtain ⟨p0, p1, p2, p3, p4⟩ := fm_cells K8.out
      obtain ⟨q0, q1, q2, q3, q4⟩ := fm_cells K14.out
      obtain ⟨f0, f1, f2, f3, f4⟩ := fm_free K14.out
      have hn1 : w3.heap.size ≠ w.heap.size + 1 := by have := HL.out; have := HLW.out; omega
      have hn2 : w.heap.size + 1 ≠ w3.heap.size := fun e => hn1 e.symm
      go_wp2_with fail
      refine bodyPost_ret (v := .tuple #[.agg #[.int .i64 (x.chS (wayS n way)).f0, .string (x.chS (wayS n way)).f1, .int .i64 (x.chS (wayS n way)).f2, .slice D3 (x.chS (wayS n way)).f3.length e3, .slice D4 (x.chS (wayS n way)).f4.length e4], .bool true]) (by simp [results, Try.results88, go_sem, q0, q1, q2, q3, q4, f0, f1, f2, f3, f4]) rfl ?_
      rw [HRE.out, orN_yes HY.out]
      refine ⟨_, _, rfl, tellsNew.low B1.out.size (tellsNew.move HT4.out (fun b hb => ?_)), ?_⟩
      · have := HL.out
        repeat rw [Below.heap_setCell _ _ _ b (by show b ≠ w.heap.size + 1; omega)]
      · repeat (refine below_set ?_ (by omega))
        exact B4.out
    · rw [← pB_no hy]
      have HY := Lib.hid hy
      clear hy
      obtain ⟨q0, q1, q2, q3, q4⟩ := fm_cells K14.out
      obtain ⟨f0, f1, f2, f3, f4⟩ := fm_free K14.out
      have HB9 := Lib.hid B4.out
      go_wp2_with fail
      refine bodyPost_ret (v := .tuple #[.agg #[.int .i64 0, .string ⟨#[]⟩, .int .i64 0, .slice none 0 0, .slice none 0 0], .bool false]) (by simp [results, Try.results88, go_sem, q0, q1, q2, q3, q4, f0, f1, f2, f3, f4]) rfl ?_
      rw [HRE.out, orN_no HY.out]
      refine ⟨_, _, rfl, ⟨[], trz _, by simp, by simp⟩, ?_⟩
      repeat (refine below_set ?_ (by omega))
      exact HB9.out
  · rw [← pB_no hx]
    have HX := Lib.hid hx
    clear hx
    obtain ⟨q0, q1, q2, q3, q4⟩ := fm_cells K1.out
    obtain ⟨f0, f1, f2, f3, f4⟩ := fm_free K1.out
    have HB9 := Lib.hid B1.out
    go_wp2_with fail
    refine bodyPost_ret (v := .tuple #[.agg #[.int .i64 0, .string ⟨#[]⟩, .int .i64 0, .slice none 0 0, .slice none 0 0], .bool false]) (by simp [results, Try.results88, go_sem, q0, q1, q2, q3, q4, f0, f1, f2, f3, f4]) rfl ?_
    rw [reS_out (fun h => HX.out h.1)]
    refine ⟨_, _, rfl, ⟨[], trz _, by simp, by simp⟩, ?_⟩
    repeat (refine below_set ?_ (by omega))
    exact HB9.out
end Go.Proofs.Yteonncnhhccgeaa
end
section
namespace Go.Proofs.Yteonncnhhccgeaa
open Go.RowKit Go.Proofs.YteonncnhhccgeaaW.PrintWords Go.Proofs.YteonncnhhccgeaaW.PrintLast Go.Proofs.YteonncnhhccgeaaW.PrintMore
set_option linter.unusedVariables false
set_option linter.unusedSimpArgs false
theorem NewF.In {B : Nat} {w : World} {x : Fm} {v3 v4 : Value} (h : NewF B w x v3 v4) : ∃ A3 c3 A4 c4, v3 = .slice A3 x.f3.length c3 ∧ v4 = .slice A4 x.f4.length c4 ∧ FmIn w x A3 c3 A4 c4 := by
  obtain ⟨fp, ht, _, _⟩ := h
  exact ht.In
theorem RetT.getFV {w : World} {p : Fm × Bool} {e : Ending} {w' : World} (h : RetT tellsNew w p e w') : GetFV w p.1 (.bool p.2) e w' := by
  obtain ⟨v3, v4, rfl, hn, hb⟩ := h
  obtain ⟨A3, c3, A4, c4, rfl, rfl, hi⟩ := NewF.In hn
  exact ⟨A3, c3, A4, c4, rfl, hi, hb⟩
theorem putOk (n : Int) (l : List Int) (h : ScOk l) : gIf (l.Pairwise (· < ·) ∧ l.length ≤ 1000000) (putS l n) = some (putS l n) ∧ (putS l n).length ≤ 1000 := by
  obtain ⟨h1, h2, _⟩ := scOk_iff.1 h
  have := len_putS_le l n
  exact ⟨gIf_yes ⟨h2, by omega⟩ _, by omega⟩
theorem implAdd_new (n : Int) (x : Fm) (A3 : Option Addr) (c3 : Nat) (A4 : Option Addr) (c4 : Nat) (w : World) (hin : FmIn w x A3 c3 A4 c4) (ht : x.tot ≤ 1048576) : Calls Try.prog 31 #[.agg #[.int .i64 x.f0, .string x.f1, .int .i64 x.f2, .slice A3 x.f3.length c3, .slice A4 x.f4.length c4], .int .i64 n] w (RetT tellsNew w (reS (fun l => putS l n) n x)) :=
  AddScope_walk tellsNew x A3 c3 A4 c4 n _ w fun W hb hc => rescoped_new (fvAddScope n (w.heap.size + 1) W hc) _ n x A3 c3 A4 c4 W (hin.below hb) ht (Below.refl _ _) (putOk n)
theorem implDrop_new (n : Int) (x : Fm) (A3 : Option Addr) (c3 : Nat) (A4 : Option Addr) (c4 : Nat) (w : World) (hin : FmIn w x A3 c3 A4 c4) (ht : x.tot ≤ 1048576) : Calls Try.prog 43 #[.agg #[.int .i64 x.f0, .string x.f1, .int .i64 x.f2, .slice A3 x.f3.length c3, .slice A4 x.f4.length c4], .int .i64 n] w (RetT tellsNew w (reS (fun l => takeO l n) n x)) :=
  DropScope_walk tellsNew x A3 c3 A4 c4 n _ w fun W hb hc => rescoped_new (fvDropScope n (w.heap.size + 1) W hc) _ n x A3 c3 A4 c4 W (hin.below hb) ht (Below.refl _ _) (fun l hl => ⟨rfl, by have := len_takeO_le l n; have := hl.1; omega⟩)
set_option maxHeartbeats 1000000 in
theorem specDrop_new (n : Int) (x : Fm) (A3 : Option Addr) (c3 : Nat) (A4 : Option Addr) (c4 : Nat) (w : World) (hin : FmIn w x A3 c3 A4 c4) (ht : x.tot ≤ 1048576) : Calls Try.prog 44 #[.agg #[.int .i64 x.f0, .string x.f1, .int .i64 x.f2, .slice A3 x.f3.length c3, .slice A4 x.f4.length c4], .int .i64 n] w (RetT tellsNew w (reS (fun l => takeO l n) n x)) := by
  have HC := Lib.hid (fun W hb => l2Done_any n 2 x A3 c3 A4 c4 W (hin.below hb) ht)
  rw [show (wayS n 2) = (fun l => takeO l n) from rfl] at HC
  clear hin ht
  generalize reS (fun l => takeO l n) n x = r at HC ⊢
  go_enter Try.func44, Try.ntmps44
  go_wp2_with fail
  refine (HC.out _ (below_step (below_new _ _) (below_new _ _))).mono ?_
  rintro e w1 ⟨v3, v4, rfl, hT, hb1⟩
  obtain ⟨D3, e3, D4, e4, rfl, rfl⟩ := tellsNew.form hT
  obtain ⟨k0, k1, b1⟩ := two_new hb1
  obtain ⟨q0, q1, q2, q3, q4⟩ := fm_cells k1
  obtain ⟨f0, f1, f2, f3, f4⟩ := fm_free k1
  have HT := Lib.hid hT
  have HB := Lib.hid b1
  clear hT hb1 b1 k0 k1
  go_wp2_with fail
  refine bodyPost_ret (v := .tuple #[.agg #[.int .i64 (r).1.f0, .string (r).1.f1, .int .i64 (r).1.f2, .slice D3 (r).1.f3.length e3, .slice D4 (r).1.f4.length e4], .bool (r).2]) (by simp [results, Try.results44, go_sem, q0, q1, q2, q3, q4, f0, f1, f2, f3, f4]) rfl ⟨_, _, rfl, tellsNew.low (by simp; omega) (tellsNew.move HT.out (fun b hb => ?_)), ?_⟩
  · simp at hb
    repeat rw [Below.heap_setCell _ _ _ b (by simp; omega)]
  · repeat (refine below_set ?_ (by omega))
    exact HB.out
end Go.Proofs.Yteonncnhhccgeaa
end
section
namespace Go.Proofs.Yteonncnhhccgeaa
open Go.RowKit Go.Proofs.YteonncnhhccgeaaW.PrintWords Go.Proofs.YteonncnhhccgeaaW.PrintLast Go.Proofs.YteonncnhhccgeaaW.PrintMore
set_option linter.unusedVariables false
set_option linter.unusedSimpArgs false
set_option maxHeartbeats 4000000 in
set_option maxRecDepth 100000 in
theorem l2Case_ex (l : List Int) (hl : ∀ z, z ∈ l → 0 ≤ z ∧ z < 256) : ∃ (x : Fm) (n : Int), x.tot ≤ 7000 ∧ 0 ≤ n ∧ n ≤ 100 ∧ ∀ (A : Option Addr) (c : Nat) (w : World), (Kd.int .u8).C w A l.length l → l.length ≤ c → Calls Try.prog 84 #[.slice A l.length c] w (GetFS w x (.int .i64 n)) := by
  obtain ⟨s, hs, hopen⟩ := open_at l hl
  obtain ⟨n0, hn0, e1⟩ := ev_num hs 0 (by omega) [3, 2, 4] (by simp) (by simp)
  obtain ⟨d, rfl, hd⟩ : ∃ d : Nat, n0 = (d : Int) ∧ d ≤ 4 := by
    simp only [List.mem_cons, List.not_mem_nil, or_false] at hn0
    rcases hn0 with rfl | rfl | rfl
    · exact ⟨3, rfl, by omega⟩
    · exact ⟨2, rfl, by omega⟩
    · exact ⟨4, rfl, by omega⟩
  have hB := Bn_le hd
  have hsc : ∀ n : Int, n ∈ ([1, 2, 3, 5, 99, 0, 100] : List Int) → 0 ≤ n ∧ n ≤ 100 := by
    intro n hn
    simp only [List.mem_cons, List.not_mem_nil, or_false] at hn
    omega
  obtain ⟨x1, q1, a1, b1, c1⟩ := some_ex hs d hd 1 (by omega)
  have s1 := sizes_totL x1
  obtain ⟨x2, q2, a2, b2, f2, _, c2⟩ := dress_ex hs x1 (by omega) q1 (by omega)
  obtain ⟨v, hv, e2⟩ := ev_pick hs q2 (by omega) 16 (by omega)
  obtain ⟨x3, q3, a3, b3, f3, c3⟩ := mutate_ex hs x2 (by omega) (q2 + 1) (by omega)
  obtain ⟨x4, q4, a4, b4, f4, c4⟩ := mutate_ex hs x3 (by omega) q3 (by omega)
  obtain ⟨y, q5, hy, hq5, hyt⟩ : ∃ y q5, (if v = 0 then x4 else x2) = y ∧ (if v = 0 then q4 else q2 + 1) = q5 ∧ y.tot ≤ 7000 := by
    refine ⟨_, _, rfl, rfl, ?_⟩
    split <;> omega
  have hq5' : q5 ≤ 999000 := by rw [← hq5]; split <;> omega
  obtain ⟨m, hm, e3⟩ := ev_num hs q5 (by omega) [1, 2, 3, 5, 99, 0, 100] (by simp) (by simp)
  refine ⟨y, m, hyt, (hsc m hm).1, (hsc m hm).2, fun A c w hr hc => ?_⟩
  have HO := Lib.hid hopen
  have HE1 := Lib.hid e1
  have HS1 := Lib.hid c1
  have HS2 := Lib.hid c2
  have HE2 := Lib.hid e2
  have HS3 := Lib.hid c3
  have HS4 := Lib.hid c4
  have HY := Lib.hid hy
  have HQ := Lib.hid hq5
  have HE3 := Lib.hid e3
  clear hopen e1 c1 c2 e2 c3 c4 hy hq5 e3 hs hn0 hsc hm hv a1 a2 a3 a4 b1 b2 b3 b4 f2 f3 f4 s1 hB hq5' hyt
  go_enter Try.func84, Try.ntmps84
  go_wp2_with fail
  refine (HO.out A c w _ (below_new _ _) hr hc).mono ?_
  rintro e w2 ⟨g, rfl, hi, hb, hb2⟩
  obtain ⟨kr, hbw⟩ := one_new hb2
  have HD := Lib.hid (Dr.new hi hb)
  have HG := Lib.hid (show g ≠ w.heap.size from Q.IsS104.ne_blk hi kr (by decide))
  have HKR := Lib.hid kr
  have HW2 := Lib.hid (show w.heap.size < w2.heap.size from blk_lt kr)
  clear hi hb hb2 kr hbw
  go_wp2_with fail
  refine (num_lit (l := [3, 2, 4]) rfl (by simp) HE1.out g w w2 HD.out.is HD.out.b).mono ?_
  rintro e w3 ⟨rfl, hi, hb, hk⟩
  replace HD := Lib.hid (HD.out.call hi hb hk)
  clear hi hb hk
  go_wp2_with fail
  refine (HS1.out g w w3 HD.out.is HD.out.b).mono ?_
  rintro e w4 ⟨A3, c3, A4, c4, rfl, hf, hi, hb, hk⟩
  have HF := Lib.hid hf.now
  replace HD := Lib.hid (HD.out.call hi hb hk)
  clear hi hb hk hf
  go_wp2_with fail
  refine (HS2.out g A3 c3 A4 c4 w w4 HD.out.is HD.out.b HF.out).mono ?_
  intro e w5 hp
  obtain ⟨B3, d3, B4, d4, rfl, hf, hi, hb, hk⟩ := hp.get
  have HF2 := Lib.hid hf
  have HL2 := Lib.hid (show g < w4.heap.size from HD.out.ltW)
  have HW5 := Lib.hid (show w2.heap.size ≤ w5.heap.size from Nat.le_trans HD.out.size hk.1)
  replace HD := Lib.hid (HD.out.call hi hb hk)
  clear hi hb hk hf hp HF
  go_wp2_with fail
  refine (pick_at HE2.out g w _ (HD.out.later (below_new _ _)).is (HD.out.later (below_new _ _)).b).mono ?_
  rintro e w6 ⟨rfl, hi, hb, hk⟩
  have HD5 := Lib.hid ((HD.out.later (below_new _ (.cells #[.int .i64 x2.f0, .string x2.f1, .int .i64 x2.f2, .slice B3 x2.f3.length d3, .slice B4 x2.f4.length d4] 31))).call hi hb hk)
  have hk5 : w6.heap[w5.heap.size]? = some (.cells #[.int .i64 x2.f0, .string x2.f1, .int .i64 x2.f2, .slice B3 x2.f3.length d3, .slice B4 x2.f4.length d4] 31) := hk.blk (blk_new w5 _) (by have := HL2.out; have := HD.out.size; have := HD.out.lt; have := HW5.out; omega) (by simp)
  have HK5 := Lib.hid hk5
  have HF6 := Lib.hid ((HF2.out.later (below_new _ (.cells #[.int .i64 x2.f0, .string x2.f1, .int .i64 x2.f2, .slice B3 x2.f3.length d3, .slice B4 x2.f4.length d4] 31))).keep hk HL2.out)
  clear hi hb hk hk5
  go_upto_if 17 with fail
  (try simp only [Act.put, List.setIfInBounds_toArray, List.set_cons_zero, List.set_cons_succ])
  go_cut [] (fun wc => ∃ (C3 : Option Addr) (j3 : Nat) (C4 : Option Addr) (j4 : Nat), Aside0 (Dr w w2 g s (q5 : Int) wc) ∧ Aside0 (wc.heap[w5.heap.size]? = some (.cells #[.int .i64 y.f0, .string y.f1, .int .i64 y.f2, .slice C3 y.f3.length j3, .slice C4 y.f4.length j4] 31)) ∧ Aside0 (FmS (g + 1) wc y C3 j3 C4 j4))
  case first =>
    obtain ⟨p0, p1, p2, p3, p4⟩ := fm_cells HK5.out
    obtain ⟨o0, o1, o2, o3, o4⟩ := fm_free HK5.out
    by_cases hv : v = 0
    · have t1 : (v == 0) = true := beq_iff_eq.mpr hv
      have HV := Lib.hid hv
      clear hv
      go_wp2_with fail
      refine (HS3.out g B3 d3 B4 d4 w w6 HD5.out.is HD5.out.b HF6.out.now).mono ?_
      intro e w7 hp
      obtain ⟨C3, j3, C4, j4, rfl, hf, hi, hb, hk⟩ := hp.get
      have HF7 := Lib.hid hf.now
      have HK7 := Lib.hid (show w7.heap[w5.heap.size]? = some (.cells #[.int .i64 x2.f0, .string x2.f1, .int .i64 x2.f2, .slice B3 x2.f3.length d3, .slice B4 x2.f4.length d4] 31) from hk.blk HK5.out (by have := HD.out.lt; have := HW5.out; omega) (by simp))
      have HD7 := Lib.hid (HD5.out.call hi hb hk)
      clear hi hb hk hf hp p0 p1 p2 p3 p4 o0 o1 o2 o3 o4
      go_wp2_with fail
      refine (HS4.out g C3 j3 C4 j4 w w7 HD7.out.is HD7.out.b HF7.out).mono ?_
      intro e w8 hp
      obtain ⟨E3, k3, E4, k4, rfl, hf, hi, hb, hk⟩ := hp.get
      have HK8 := Lib.hid (show w8.heap[w5.heap.size]? = some (.cells #[.int .i64 x2.f0, .string x2.f1, .int .i64 x2.f2, .slice B3 x2.f3.length d3, .slice B4 x2.f4.length d4] 31) from hk.blk HK7.out (by have := HD.out.lt; have := HW5.out; omega) (by simp))
      have HD8 := Lib.hid (HD7.out.call hi hb hk)
      obtain ⟨p0, p1, p2, p3, p4⟩ := fm_cells HK8.out
      obtain ⟨o0, o1, o2, o3, o4⟩ := fm_free HK8.out
      obtain ⟨st1, st2, st3⟩ := st5 HK8.out (.int .i64 x4.f0) (.string x4.f1) (.int .i64 x4.f2) (.slice E3 x4.f3.length k3) (.slice E4 x4.f4.length k4)
      have HR := Lib.hid (And.intro (HD8.out.put5 (b := w5.heap.size) (HW5.out) (.int .i64 x4.f0) (.string x4.f1) (.int .i64 x4.f2) (.slice E3 x4.f3.length k3) (.slice E4 x4.f4.length k4)) (And.intro st1 (show FmS w7.heap.size _ x4 E3 k3 E4 k4 from hf.move (st3 0 w8 (Below.refl 0 w8) (Nat.zero_le _)).size (fun b hb hlt => st2 b (by have := blk_lt HK7.out; omega)))))
      have HL7 := Lib.hid (show g + 1 ≤ w7.heap.size from Nat.succ_le_of_lt HD7.out.ltW)
      clear st1 st2 st3 hi hb hk hf hp
      go_wp2_with fail
      go_meet
      case rel =>
        have hy := HY.out
        have hq := HQ.out
        rw [if_pos HV.out] at hy hq
        rw [← hy, ← hq]
        exact ⟨_, _, _, _, ⟨HR.out.1⟩, ⟨HR.out.2.1⟩, ⟨⟨fun W hW => HR.out.2.2.out W (fun b h1 h2 => hW b (by have := HL7.out; omega) h2)⟩⟩⟩
    · have t1 : (v == 0) = false := beq_eq_false_iff_ne.mpr hv
      have HV := Lib.hid hv
      clear hv
      go_wp2_with fail
      go_meet
      case rel =>
        have hy := HY.out
        have hq := HQ.out
        rw [if_neg HV.out] at hy hq
        rw [← hy, ← hq]
        exact ⟨_, _, _, _, ⟨HD5.out⟩, ⟨HK5.out⟩, ⟨⟨fun W hW => HF6.out.out W (fun b h1 h2 => hW b (by have := HL2.out; omega) h2)⟩⟩⟩
  case rest =>
    obtain ⟨C3, j3, C4, j4, HDc, HKc, HFc⟩ := hcut
    obtain ⟨p0, p1, p2, p3, p4⟩ := fm_cells HKc.out
    have HYF := HFc
    have hr0 : wc.heap[w.heap.size]? = some (.cells #[.int .i64 0, .string ⟨#[]⟩, .int .i64 0, .slice none 0 0, .slice none 0 0] 31) := HDc.out.kp.blk HKR.out (fun e => HG.out e.symm) (by simp)
    obtain ⟨z0, z1, z2, z3, z4⟩ := fm_cells hr0
    obtain ⟨f0, f1, f2, f3, f4⟩ := fm_free hr0
    have hn1 : w5.heap.size ≠ w.heap.size := by have := HW2.out; have := HW5.out; omega
    have hn2 : w.heap.size ≠ w5.heap.size := fun e => hn1 e.symm
    have HR0 := Lib.hid hr0
    clear hr0
    go_wp2_with fail
    have HDD := Lib.hid (HDc.out.later (below_drew (Below.refl _ _)))
    have HKD := Lib.hid (blk_drew HKc.out)
    have HRD := Lib.hid (blk_drew HR0.out)
    have HFD := Lib.hid (HFc.out.later (below_drew (Below.refl _ _)))
    refine start_ (n := 6) (S := (fun W : World => W.cell? ⟨w5.heap.size, 0, none⟩ = some (.int .i64 y.f0) ∧ W.cell? ⟨w5.heap.size, 1, none⟩ = some (.string y.f1) ∧ W.cell? ⟨w5.heap.size, 2, none⟩ = some (.int .i64 y.f2) ∧ W.cell? ⟨w5.heap.size, 3, none⟩ = some (.slice C3 y.f3.length j3) ∧ W.cell? ⟨w5.heap.size, 4, none⟩ = some (.slice C4 y.f4.length j4))) (ds := []) #[false, false, false, false, false, false] (by kernel_rfl) rfl rfl (fm_cells HKD.out) (fun hHeld => ?_)
    clear p0 p1 p2 p3 p4 z0 z1 z2 z3 z4 f0 f1 f2 f3 f4
    generalize wc.drew = wd at HDD HKD HRD HFD hHeld ⊢
    refine take_ (i := 0) (N := some 23) (v := ?_) (a' := ?_) #[true, false, false, false, false, false] rfl rfl (by kernel_rfl) (fun _ _ _ h => h) (Or.inl ⟨by rfl, ?_⟩) hHeld ?_ ?_
    rotate_left
    · rintro w' ⟨s0, s1, s2, s3, s4⟩
      go_simp
      with_reducible rfl
    rotate_left
    · simp only [Act.put, List.setIfInBounds_toArray, List.set_cons_zero, List.set_cons_succ, i64_w, i32_w]
      rfl
    refine pure_ (i := 1) (N := some 24) (v := ?_) (a' := ?_) #[true, true, false, false, false, false] rfl rfl (by kernel_rfl) (fun _ _ _ h => h) (Or.inl ⟨by rfl, ?_⟩) ?_ ?_
    rotate_left
    · intro w'
      go_simp
      with_reducible rfl
    rotate_left
    · simp only [Act.put, List.setIfInBounds_toArray, List.set_cons_zero, List.set_cons_succ, i64_w, i32_w]
      rfl
    refine one_ (i := 2) (N := some 25) #[true, true, true, false, false, false] rfl rfl (by kernel_rfl) (by decide) (fun K hK => ?_)
    refine value_ (w1 := ?_) (v := ?_) (by rfl) rfl ?_ ?_
    rotate_left 2
    · go_simp
      constructor
      · rfl
      · rfl
    refine hK.out _ _ (fm_cells (blk_alloc HKD.out _)) (fun hHeld => ?_)
    clear hK K
    refine norm_ (a' := ?_) ?_ ?_
    rotate_left
    · show Act.put _ (some 25) _ = _
      simp only [Act.put, List.setIfInBounds_toArray, List.set_cons_zero, List.set_cons_succ, i64_w, i32_w]
      rfl
    refine one_ (i := 3) (N := some 26) #[true, true, true, true, false, false] rfl rfl (by kernel_rfl) (by decide) (fun K hK => ?_)
    refine goes_ Try.func126 (by kernel_rfl) rfl #[.pointer (some ⟨g, 0, none⟩), .slice (some ⟨wd.heap.size, 0, none⟩) 7 7] (by rfl) rfl rfl (by (try simp only [List.map_toArray, List.map_cons, List.map_nil]); first | done | rfl) ?_
    refine (num_lit (l := [1, 2, 3, 5, 99, 0, 100]) rfl (by simp) HE3.out g w wd HDD.out.is HDD.out.b).mono ?_
    rintro e w9 ⟨rfl, hi, hb, hk⟩
    refine ⟨_, rfl, ?_⟩
    have HK9 := Lib.hid (hk.blk HKD.out (by have := HDc.out.lt; have := HW5.out; omega) (by simp))
    have HR9 := Lib.hid (hk.blk HRD.out (fun e => HG.out e.symm) (by simp))
    have HD9 := Lib.hid (HDD.out.call hi hb hk)
    have HF9 := Lib.hid (HFD.out.keep hk (Nat.lt_succ_self g))
    clear hi hb hk
    refine hK.out _ _ (fm_cells HK9.out) (fun hHeld => ?_)
    clear hK K
    refine norm_ (a' := ?_) ?_ ?_
    rotate_left
    · show Act.put _ (some 26) _ = _
      simp only [Act.put, List.setIfInBounds_toArray, List.set_cons_zero, List.set_cons_succ, i64_w, i32_w]
      rfl
    obtain ⟨z0, z1, z2, z3, z4⟩ := fm_cells HR9.out
    obtain ⟨f0, f1, f2, f3, f4⟩ := fm_free HR9.out
    obtain ⟨st1, st2, st3⟩ := st5 HR9.out (.int .i64 y.f0) (.string y.f1) (.int .i64 y.f2) (.slice C3 y.f3.length j3) (.slice C4 y.f4.length j4)
    have hS5 := fm_cells ((st2 w5.heap.size hn1).trans HK9.out)
    have HFIN := Lib.hid (show FmS w.heap.size _ y C3 j3 C4 j4 from (HF9.out.move (st3 0 w9 (Below.refl 0 w9) (Nat.zero_le _)).size (fun b h1 h2 => st2 b (by have := Q.IsS104.ge HD9.out.is; omega))).low (by have := Q.IsS104.ge HD9.out.is; omega))
    have HBN := Lib.hid (st3 _ _ HD9.out.b (Nat.le_refl _))
    refine one_ (i := 4) (N := none) #[true, true, true, true, true, false] rfl rfl (by kernel_rfl) (by decide) (fun K hK => ?_)
    refine skip_ (w1 := ?_) (by rfl) rfl ?_ ?_
    rotate_left
    · go_simp
      rfl
    refine hK.out _ _ hS5 (fun hHeld => ?_)
    clear hK K st1 st2 st3 hS5 f0 f1 f2 f3 f4
    refine pure_ (i := 5) (N := some 3) (v := ?_) (a' := ?_) #[true, true, true, true, true, true] rfl rfl (by kernel_rfl) (fun _ _ _ h => h) (Or.inl ⟨by rfl, ?_⟩) ?_ ?_
    rotate_left
    · intro w'
      go_simp
      with_reducible rfl
    rotate_left
    · simp only [Act.put, List.setIfInBounds_toArray, List.set_cons_zero, List.set_cons_succ, i64_w, i32_w]
      rfl
    refine done_ (by kernel_rfl) ?_
    try go_wp2_with fail
    refine bodyPost_ret (v := .tuple #[.agg #[.int .i64 y.f0, .string y.f1, .int .i64 y.f2, .slice C3 y.f3.length j3, .slice C4 y.f4.length j4], .int .i64 m]) (by simp [results, Try.results84, go_sem, z0, z1, z2, z3, z4]) rfl ?_
    exact ⟨_, _, _, _, rfl, HFIN.out, HBN.out⟩
end Go.Proofs.Yteonncnhhccgeaa
end
section
namespace Go.Proofs.Yteonncnhhccgeaa
open Go.RowKit Go.Proofs.YteonncnhhccgeaaW.PrintWords Go.Proofs.YteonncnhhccgeaaW.PrintLast Go.Proofs.YteonncnhhccgeaaW.PrintMore
set_option linter.unusedVariables false
set_option linter.unusedSimpArgs false
set_option maxHeartbeats 1000000 in
theorem drawDrop (l : List Int) (hl : ∀ z, z ∈ l → 0 ≤ z ∧ z < 256) : ∃ (x : Fm) (n : Int), x.tot ≤ 7000 ∧ 0 ≤ n ∧ n ≤ 100 ∧ ∀ (A : Option Addr) (c : Nat) (w : World), (Kd.int .u8).C w A l.length l → l.length ≤ c → Calls Try.prog 42 #[.slice A l.length c] w (GetFV w x (.int .i64 n)) := by
  obtain ⟨x, n, ht, h0, h1, hd⟩ := l2Case_ex l hl
  refine ⟨x, n, ht, h0, h1, fun A c w hr hc => ?_⟩
  have HC := Lib.hid (fun W (hb : Below w.heap.size w W) => hd A c W (Kd.C_below hr hb) hc)
  clear hd hr ht h0 h1
  go_enter Try.func42, Try.ntmps42
  go_wp2_with fail
  refine (HC.out _ (below_new _ _)).mono ?_
  rintro e w1 ⟨D3, e3, D4, e4, rfl, hi, hb1⟩
  obtain ⟨k1, b1⟩ := one_new hb1
  obtain ⟨q0, q1, q2, q3, q4⟩ := fm_cells k1
  obtain ⟨f0, f1, f2, f3, f4⟩ := fm_free k1
  obtain ⟨st1, st2, st3⟩ := st5 k1 (.int .i64 x.f0) (.string x.f1) (.int .i64 x.f2) (.slice D3 x.f3.length e3) (.slice D4 x.f4.length e4)
  have HF := Lib.hid (show FmS w.heap.size _ x D3 e3 D4 e4 from (hi.move (st3 0 w1 (Below.refl 0 w1) (Nat.zero_le _)).size (fun b h1 h2 => st2 b (by simp at h1; omega))).low (by simp))
  have HB := Lib.hid (st3 _ _ b1 (Nat.le_refl _))
  clear st1 st2 st3 hi hb1 k1 b1
  go_wp2_with fail
  refine bodyPost_ret (v := .tuple #[.agg #[.int .i64 x.f0, .string x.f1, .int .i64 x.f2, .slice D3 x.f3.length e3, .slice D4 x.f4.length e4], .int .i64 n]) (by simp [results, Try.results42, go_sem, q0, q1, q2, q3, q4, f0, f1, f2, f3, f4]) rfl ?_
  exact ⟨_, _, _, _, rfl, HF.out.now, HB.out⟩
end Go.Proofs.Yteonncnhhccgeaa
end
section
namespace Go.Proofs.Yteonncnhhccgeaa
open Go.RowKit Go.Proofs.YteonncnhhccgeaaW.PrintWords Go.Proofs.YteonncnhhccgeaaW.PrintLast Go.Proofs.YteonncnhhccgeaaW.PrintMore
set_option linter.unusedVariables false
set_option linter.unusedSimpArgs false
theorem byteOk {n : Int} (h : (Lit.int .u8 n).wf = true) : 0 ≤ n ∧ n < 256 := by
  simp only [Lit.wf, Bool.and_eq_true, decide_eq_true_eq] at h
  have e1 : IntKind.u8.min = 0 := by decide
  have e2 : IntKind.u8.max = 255 := by decide
  omega
theorem sameT (x : Fm) (A3 : Option Addr) (c3 : Nat) (A4 : Option Addr) (c4 : Nat) (B3 : Option Addr) (d3 : Nat) (B4 : Option Addr) (d4 : Nat) (w : World) (h1 : FmIn w x A3 c3 A4 c4) (h2 : FmIn w x B3 d3 B4 d4) :
    Calls Try.prog 33 #[.agg #[.int .i64 x.f0, .string x.f1, .int .i64 x.f2, .slice A3 x.f3.length c3, .slice A4 x.f4.length c4], .agg #[.int .i64 x.f0, .string x.f1, .int .i64 x.f2, .slice B3 x.f3.length d3, .slice B4 x.f4.length d4]] w (Ret w (.bool true)) := by
  have := implSame_any x x A3 c3 A4 c4 B3 d3 B4 d4 w h1 h2
  rwa [eqB_self] at this
theorem implGDrop' {n : Int} {x z : Fm} {b : Bool} (hz : reS (fun l => takeO l n) n x = (z, b)) (A3 : Option Addr) (c3 : Nat) (A4 : Option Addr) (c4 : Nat) (w : World) (hin : FmIn w x A3 c3 A4 c4) (ht : x.tot ≤ 1048576) :
    Calls Try.prog 43 #[.agg #[.int .i64 x.f0, .string x.f1, .int .i64 x.f2, .slice A3 x.f3.length c3, .slice A4 x.f4.length c4], .int .i64 n] w (GetFV w z (.bool b)) := by
  have := (implDrop_new n x A3 c3 A4 c4 w hin ht).mono (fun e w' h => h.getFV)
  rwa [hz] at this
theorem specGDrop' {n : Int} {x z : Fm} {b : Bool} (hz : reS (fun l => takeO l n) n x = (z, b)) (A3 : Option Addr) (c3 : Nat) (A4 : Option Addr) (c4 : Nat) (w : World) (hin : FmIn w x A3 c3 A4 c4) (ht : x.tot ≤ 1000000) :
    Calls Try.prog 44 #[.agg #[.int .i64 x.f0, .string x.f1, .int .i64 x.f2, .slice A3 x.f3.length c3, .slice A4 x.f4.length c4], .int .i64 n] w (GetFV w z (.bool b)) := by
  have := (specDrop_new n x A3 c3 A4 c4 w hin (by omega)).mono (fun e w' h => h.getFV)
  rwa [hz] at this
theorem RetF.get {w : World} {x : Fm} {e : Ending} {w' : World} (h : RetF w x e w') : GetF w x e w' := by
  obtain ⟨v3, v4, rfl, hn, hb⟩ := h
  obtain ⟨A3, c3, A4, c4, rfl, rfl, hi⟩ := hn.In
  exact ⟨A3, c3, A4, c4, rfl, hi, hb⟩
end Go.Proofs.Yteonncnhhccgeaa
end
section
namespace Go.Proofs.Yteonncnhhccgeaa
open Go.RowKit Go.Proofs.YteonncnhhccgeaaW.PrintWords Go.Proofs.YteonncnhhccgeaaW.PrintLast Go.Proofs.YteonncnhhccgeaaW.PrintMore
set_option linter.unusedVariables false
def wB (a b : List Int) : Bool := decide (∀ x, x ∈ a → x ∈ b)
theorem wB_iff {a b : List Int} : wB a b = true ↔ ∀ x, x ∈ a → x ∈ b := decide_eq_true_iff
theorem implW' {xs ys : List Int} {b : Bool} (h : wB xs ys = b) (A B : Option Addr) (c d : Nat) (w : World) (hr : kI.C w A xs.length xs) (hc : xs.length ≤ c) (hr2 : kI.C w B ys.length ys) (hc2 : ys.length ≤ d) :
    Calls Try.prog 28 #[.slice A xs.length c, .slice B ys.length d] w (Ret w (.bool b)) := h ▸ implWithin_any xs ys A B c d w hr hc hr2 hc2
/-- Of the first i elements, whether each is in b. -/
def bothB (a b : List Int) (i : Nat) : Bool := decide (∀ x, x ∈ a.take i → x ∈ b)
end Go.Proofs.Yteonncnhhccgeaa
end
section
namespace Go.Proofs.Yteonncnhhccgeaa
open Go.RowKit Go.Proofs.YteonncnhhccgeaaW.PrintWords Go.Proofs.YteonncnhhccgeaaW.PrintLast Go.Proofs.YteonncnhhccgeaaW.PrintMore
set_option linter.unusedVariables false
set_option linter.unusedSimpArgs false
abbrev kS : Kd ByteArray := Kd.string
instance decMemB (n : ByteArray) (xs : List ByteArray) : Decidable (n ∈ xs) := @List.instDecidableMemOfLawfulBEq ByteArray instBEqOfDecidableEq _ n xs
/-- The string at place i. -/
theorem str_at {w : World} {A : Option Addr} {n : Nat} {xs : List ByteArray} (h : kS.C w A n xs) (i : Nat) (h1 : i < xs.length) : ∃ ad, A = some ad ∧ w.cell? (ad.add i) = some (.string xs[i]) := by
  have hn := h.1
  obtain ⟨ad, c, e, _, hK, hc0⟩ := Kd.C_get h ByteArray.empty (i : Int) (by omega) (by omega)
  rw [Int.toNat_natCast] at hK hc0
  rw [show xs.getD i ByteArray.empty = xs[i] from by rw [List.getD_eq_getElem?_getD, List.getElem?_eq_getElem h1]; rfl] at hK
  have hc : ∀ j u, c[j]? = some u → w.cell? (ad.add (i * 1 + j)) = some u := hc0
  have hK2 : c = [.string xs[i]] := hK
  subst hK2
  exact ⟨ad, e, by simpa using hc 0 _ rfl⟩
set_option maxHeartbeats 1000000 in
theorem indexS_any (xs : List ByteArray) (n : ByteArray) (A : Option Addr) (c : Nat) (w : World) (hr : kS.C w A xs.length xs) (hc : xs.length ≤ c) :
    Calls Try.prog 145 #[.slice A xs.length c, .string n] w (Ret w (.int .i64 (fidx (fun x => n.toList == x.toList) xs))) := by
  have hmax := hr.2.1
  go_enter Try.func145, Try.ntmps145
  go_wp2_with fail
  go_loopg [5, 8] xs.length (fun kq v5 v8 w' => ∃ i : Nat, i ≤ xs.length ∧ xs.length - i ≤ kq ∧ v8 = .int .i64 i ∧ Aside0 (∀ j (h : j < xs.length), j < i → (n.toList == xs[j].toList) = false) ∧ Aside0 (Below w.heap.size w w'))
  case atStart => exact ⟨0, Nat.zero_le _, by omega, rfl, ⟨fun j _ h => absurd h (by omega)⟩, ⟨Below.refl _ _⟩⟩
  case round =>
    obtain ⟨i, hi, hg, rfl, HN, HW⟩ := hrel
    by_cases hlt : i < xs.length
    · obtain ⟨ad, e, hcell⟩ := str_at (Kd.C_below hr HW.out) i hlt
      subst e
      cases hb : (n.toList == xs[i].toList) with
      | true =>
        have HB := Lib.hid (fidx_hit (p := fun x => n.toList == x.toList) hlt hb (fun j hj => HN.out j _ hj))
        go_wp2_with fail
        go_ret
        exact ⟨ret_i HB.out.symm, HW.out⟩
      | false =>
        have HE := Lib.hid hb
        go_wp2_with fail
        go_roundg (xs.length - (i + 1))
        case measure => omega
        case rel =>
          refine ⟨i + 1, by omega, Nat.le_refl _, by go_num, ⟨fun j hj hji => ?_⟩, ⟨HW.out⟩⟩
          rcases Nat.lt_or_ge j i with h | h
          · exact HN.out j hj h
          · obtain rfl : j = i := by omega
            exact HE.out
    · obtain rfl : i = xs.length := by omega
      go_wp2_with fail
      go_ret
      exact ⟨ret_i (fidx_miss (fun j hj => HN.out j hj hj)).symm, HW.out⟩
theorem containsS_any (xs : List ByteArray) (n : ByteArray) (A : Option Addr) (c : Nat) (w : World) (hr : kS.C w A xs.length xs) (hc : xs.length ≤ c) :
    Calls Try.prog 96 #[.slice A xs.length c, .string n] w (Ret w (.bool (decide (n ∈ xs)))) := by
  have hd : decide (0 ≤ fidx (fun x => n.toList == x.toList) xs) = decide (n ∈ xs) := by
    rw [fidx_any, Bool.eq_iff_iff, List.any_eq_true, decide_eq_true_iff]
    constructor
    · rintro ⟨x, hx, he⟩
      rw [toList_inj (eq_of_beq he)]
      exact hx
    · intro h
      exact ⟨n, h, by simp⟩
  have HD := Lib.hid hd
  clear hd
  have HC := Lib.hid (indexS_any xs n A c w hr hc)
  clear hr hc
  generalize fidx (fun x => n.toList == x.toList) xs = r at HD HC
  go_enter Try.func96, Try.ntmps96
  go_wp2_with fail
  refine HC.out.mono ?_
  rintro e w1 ⟨rfl, hb1⟩
  go_wp2_with fail
  go_ret
  exact ⟨ret_b HD.out, hb1⟩
end Go.Proofs.Yteonncnhhccgeaa
end
section
namespace Go.Proofs.Yteonncnhhccgeaa
open Go.RowKit Go.Proofs.YteonncnhhccgeaaW.PrintWords Go.Proofs.YteonncnhhccgeaaW.PrintLast Go.Proofs.YteonncnhhccgeaaW.PrintMore
set_option linter.unusedVariables false
end Go.Proofs.Yteonncnhhccgeaa
end
section
namespace Go.Proofs.Yteonncnhhccgeaa
open Go.RowKit Go.Proofs.YteonncnhhccgeaaW.PrintWords Go.Proofs.YteonncnhhccgeaaW.PrintLast Go.Proofs.YteonncnhhccgeaaW.PrintMore
set_option linter.unusedVariables false
set_option linter.unusedSimpArgs false
abbrev encS (xs : List ByteArray) : List Value := encs Value.string xs
/-- One form's name is told, if it is a name that is not told yet. -/
def nmStep (s : List ByteArray) (y : Fm) : List ByteArray := if y.f0 = 1 ∧ y.f1 ∉ s then s ++ [y.f1] else s
abbrev namesN (x : Fm) : List ByteArray := foldF nmStep x []
theorem nmStep_len (s : List ByteArray) (y : Fm) : (nmStep s y).length ≤ s.length + 1 := by
  unfold nmStep; split <;> simp
mutual
theorem cost_nm : ∀ x : Fm, costF (fun _ => 1) x = x.size
  | ⟨a, b, c, d, ks⟩ => by rw [costF, Fm.size_eq, cost_nmL ks]
theorem cost_nmL : ∀ ks : List Fm, costFs (fun _ => 1) ks = sizes ks
  | [] => by rw [costFs]; rfl
  | k :: ks => by rw [costFs, cost_nmL ks, cost_nm k]; rfl
end
theorem infoSt : (Try.prog.info? 9).map (fun i => (i.zero, i.size, i.bytes)) = some (some (.string ⟨#[]⟩), 1, 16) := by kernel_rfl
theorem own_CS {w : World} {v : Value} {xs : List ByteArray} {B : Nat} (h : w.ownsRow B 9 1 v xs.length (encS xs)) : ∃ A c, v = .slice A xs.length c ∧ xs.length ≤ c ∧ kS.C w A xs.length xs := by
  obtain ⟨A, c, e, hr⟩ := own_reads_row (R := kS.K w) h (Kd.reps_scalar xs) rfl
  subst e
  exact ⟨A, c, rfl, own_le h, hr⟩
/-- A block with one string reads as_ a row. -/
theorem one_str {W : World} {b : Nat} {n : ByteArray} (hb : W.heap[b]? = some (.cells #[.string n] 9 (0, 0))) : kS.C W (some ⟨b, 0, none⟩) 1 [n] := by
  refine Kd.C_of_reads (d := ByteArray.empty) (h1 := fun _ => rfl) ⟨rfl, by omega, fun hn => ⟨⟨b, 0, none⟩, rfl, fun i hi => ?_⟩⟩
  obtain rfl : i = 0 := by omega
  exact (blk_cell hb 0).trans rfl
/-- The variable that the names are laid into: its block, and its row. -/
def StS (g0 B : Nat) (W : World) (S : List Nat) (s : List ByteArray) : Prop := ∃ v, W.heap[g0]? = some (.cells #[v] 39 (0, 0)) ∧ W.ownsRow B 9 1 v s.length (encS s) ∧ v.ownBlock ≠ some g0 ∧ S = g0 :: obs v
theorem StS.move {g0 B : Nat} (w w' : World) (S : List Nat) (s : List ByteArray) (h : StS g0 B w S s) (hm : ∀ b, b ∈ S → w'.heap[b]? = w.heap[b]?) : StS g0 B w' S s := by
  obtain ⟨v, h1, h2, h3, rfl⟩ := h
  exact ⟨v, (hm g0 List.mem_cons_self).trans h1, own_move h2 (fun k hk => hm k (List.mem_cons_of_mem _ (obs_mem.2 hk))), h3, rfl⟩
theorem StS.lt {g0 B : Nat} (w : World) (S : List Nat) (s : List ByteArray) (h : StS g0 B w S s) : ∀ b, b ∈ S → b < w.heap.size := by
  obtain ⟨v, h1, h2, h3, rfl⟩ := h
  intro b hb
  rcases List.mem_cons.1 hb with rfl | hb
  · exact blk_lt h1
  · exact own_lt h2 b (obs_mem.1 hb)
set_option maxHeartbeats 1000000 in
theorem names1_any (g0 : Nat) (w0 : World) (y : Fm) (A3 : Option Addr) (c3 : Nat) (A4 : Option Addr) (c4 : Nat) (s : List ByteArray) (S : List Nat) (w : World) (hin : FmIn w0 y A3 c3 A4 c4) (hb : Below w0.heap.size w0 w) (hs : StS g0 w0.heap.size w S s) (hS : ∀ b, b ∈ S → w0.heap.size ≤ b) (hN : s.length + 1 ≤ 10000000) :
    Calls Try.prog 95 (#[.agg #[.int .i64 y.f0, .string y.f1, .int .i64 y.f2, .slice A3 y.f3.length c3, .slice A4 y.f4.length c4]] ++ #[.pointer (some ⟨g0, 0, none⟩)]) w (StPost (StS g0 w0.heap.size) S (nmStep s y) w) := by
  obtain ⟨v, h1, h2, h3, rfl⟩ := hs
  obtain ⟨D, m, rfl, hDm, hDC⟩ := own_CS h2
  have hbx := below_new w (.cells #[.int .i64 y.f0, .string y.f1, .int .i64 y.f2, .slice A3 y.f3.length c3, .slice A4 y.f4.length c4] 31)
  have hkb := blk_new w (.cells #[.int .i64 y.f0, .string y.f1, .int .i64 y.f2, .slice A3 y.f3.length c3, .slice A4 y.f4.length c4] 31)
  obtain ⟨p0, p1, p2, p3, p4⟩ := fm_cells hkb
  have q0 : (w.alloc (.cells #[.int .i64 y.f0, .string y.f1, .int .i64 y.f2, .slice A3 y.f3.length c3, .slice A4 y.f4.length c4] 31)).cell? ⟨g0, 0, none⟩ = some (.slice D s.length m) := (blk_cell (blk_below h1 hbx) 0).trans rfl
  by_cases hk : y.f0 = 1
  · have t0 : (y.f0 == 1) = true := beq_iff_eq.mpr hk
    have HC := Lib.hid (containsS_any s y.f1 D m _ (Kd.C_below hDC hbx) hDm)
    by_cases hm : y.f1 ∈ s
    · have hstep : nmStep s y = s := by unfold nmStep; rw [if_neg (fun h => h.2 hm)]
      rw [decide_eq_true hm] at HC
      have H0 := Lib.hid (And.intro h1 (And.intro h2 (And.intro h3 (And.intro hbx hstep))))
      clear hkb h1 h2 h3 hin hb hk hm hstep hDC hS
      go_enter Try.func95, Try.ntmps95
      go_wp2_with fail
      refine HC.out.mono ?_
      rintro e w1 ⟨rfl, hb1⟩
      have HB := Lib.hid (below_step H0.out.2.2.2.1 hb1)
      clear hb1 p0 p1 p2 p3 p4 q0
      go_wp2_with fail
      go_end0
      obtain ⟨h1, h2, h3, hbx, hstep⟩ := H0.out
      rw [hstep]
      exact ⟨rfl, _, StS.move w w1 _ s ⟨_, h1, h2, h3, rfl⟩ (fun b hb => HB.out.block b (StS.lt w _ s ⟨_, h1, h2, h3, rfl⟩ b hb)), Mk.ofBelow HB.out, fun b hb => .inl hb⟩
    · have hstep : nmStep s y = s ++ [y.f1] := by unfold nmStep; rw [if_pos ⟨hk, hm⟩]
      rw [decide_eq_false hm] at HC
      have H0 := Lib.hid (And.intro h1 (And.intro h3 (And.intro (own_lt h2) hS)))
      have HX := Lib.hid (And.intro hbx (And.intro hb (And.intro h2 hstep)))
      have HKB := Lib.hid hkb
      clear hkb h1 h2 h3 hin hb hk hm hstep hDC hS hbx
      go_enter Try.func95, Try.ntmps95
      go_wp2_with fail
      refine HC.out.mono ?_
      rintro e w1 ⟨rfl, hb1⟩
      have hb2 := below_step HX.out.1 hb1
      have hn1 := below_new w1 (.cells #[.string y.f1] 9)
      have hb3 := below_step hb2 hn1
      clear p0 p1 p2 p3 p4 q0
      obtain ⟨p0, p1, p2, p3, p4⟩ := fm_cells (blk_below HKB.out hb1)
      have q0 : w1.cell? ⟨g0, 0, none⟩ = some (.slice D s.length m) := (blk_cell (blk_below H0.out.1 hb2) 0).trans rfl
      have HR := Aside0.mk (Kd.R_of_own (ok := fun _ => True) (h1 := fun _ => rfl) (own_move HX.out.2.2.1 (fun k hk => hb3.block k (H0.out.2.2.1 k hk))) (fun _ _ => trivial))
      have HCN := Aside0.mk (one_str (blk_new w1 (.cells #[.string y.f1] 9)))
      have HB := Lib.hid (below_step HX.out.2.1 hb3)
      have HB3 := Lib.hid hb3
      clear hb1 hb2 hn1 hb3
      go_wp2_with (first | ((with_reducible refine gate_dst (N := 17) rfl ?_); refine Kd.R_append_row Value.string ByteArray.empty (w0 := w0) w0.heap.size rfl (.tmp 13) (.tmp 16) 39 9 (.string ⟨#[]⟩) 16 rfl Try.underlying39 infoSt rfl (by decide) (.slice D s.length m) s [y.f1] (some ⟨w1.heap.size, 0, none⟩) 1 1 (fun _ => True) rfl rfl (fun _ _ => trivial) HR.out HCN.out HB.out HB.out.size (by omega) ?_; intro v1 w2 ho1 hb1 hg1 hat1; obtain ⟨E5, e5, e6⟩ := Kd.R_slice ho1; subst e6; have q1 : w2.heap[g0]? = some (.cells #[.slice D s.length m] 39 (0, 0)) := blk_grown (blk_below H0.out.1 HB3.out) hg1 (fun e => H0.out.2.1 e.symm); have q2 : w2.cell? ⟨g0, 0, none⟩ = some (.slice D s.length m) := (blk_cell q1 0).trans rfl; have q3 := blk_frozen q1 0; have HF := Lib.hid (And.intro q1 (And.intro (Kd.own_of_R ho1) (And.intro hg1 hat1))); clear ho1 hb1 hg1 hat1 q1))
      go_end0
      rw [show Value.slice E5 (s ++ [y.f1]).length e5 = Value.slice E5 (s.length + 1) e5 from by rw [List.length_append]; rfl] at HF
      generalize Value.slice E5 (s.length + 1) e5 = v1 at HF ⊢
      obtain ⟨q1, ho, hg, hat⟩ := HF.out
      have hne : v1.ownBlock ≠ some g0 := by
        rcases hat with e | ⟨b, e, hb⟩
        · rw [e]; exact H0.out.2.1
        · rw [e]
          intro he
          cases he
          have := blk_lt (blk_below H0.out.1 HB3.out)
          omega
      rw [HX.out.2.2.2]
      refine ⟨rfl, g0 :: obs v1, ⟨v1, by simpa using blk_set q1 0 v1, own_move ho (fun k hk => Below.heap_setCell _ _ _ _ (by show k ≠ g0; rintro rfl; exact hne hk)), hne, rfl⟩, ?_, fun b hb => ?_⟩
      · refine ⟨?_, fun b hb hn => ?_⟩
        · have := hg.size
          exact ⟨hg.os.trans HB3.out.os, hg.tape.trans HB3.out.tape, hg.output.trans HB3.out.output, by simpa using Nat.le_trans HB3.out.size this, fun k hk => absurd hk (Nat.not_lt_zero k)⟩
        · rw [Below.heap_setCell _ _ _ _ (by show b ≠ g0; rintro rfl; exact hn List.mem_cons_self)]
          rw [hg.block b (Nat.lt_of_lt_of_le hb HB3.out.size) (fun e => hn (List.mem_cons_of_mem _ (obs_mem.2 e.symm)))]
          exact HB3.out.block b hb
      · rcases List.mem_cons.1 hb with rfl | hb
        · exact .inl List.mem_cons_self
        · rcases hat with e | ⟨c, e, hc⟩
          · exact .inl (List.mem_cons_of_mem _ (obs_mem.2 (by rw [← e]; exact obs_mem.1 hb)))
          · have hbc := obs_mem.1 hb
            rw [e] at hbc
            cases hbc
            exact .inr (Nat.le_trans HB3.out.size hc)
  · have t0 : (y.f0 == 1) = false := beq_eq_false_iff_ne.mpr hk
    have hstep : nmStep s y = s := by unfold nmStep; rw [if_neg (fun h => hk h.1)]
    have H0 := Lib.hid (And.intro h1 (And.intro h2 (And.intro h3 (And.intro hbx hstep))))
    clear hkb h1 h2 h3 hin hb hk hstep hDC hS
    go_enter Try.func95, Try.ntmps95
    go_wp2_with fail
    go_end0
    obtain ⟨h1, h2, h3, hbx, hstep⟩ := H0.out
    rw [hstep]
    exact ⟨rfl, _, StS.move w _ _ s ⟨_, h1, h2, h3, rfl⟩ (fun b hb => hbx.block b (StS.lt w _ s ⟨_, h1, h2, h3, rfl⟩ b hb)), Mk.ofBelow hbx, fun b hb => .inl hb⟩
/-- A row of strings in new memory is handed back. -/
def RetS (w : World) (xs : List ByteArray) (e : Ending) (w' : World) : Prop := ∃ v, e = .returned v ∧ w'.ownsRow w.heap.size 9 1 v xs.length (encS xs) ∧ Below w.heap.size w w'
set_option maxHeartbeats 1000000 in
theorem implNames_own (x : Fm) (A3 : Option Addr) (c3 : Nat) (A4 : Option Addr) (c4 : Nat) (w : World) (hin : FmIn w x A3 c3 A4 c4) (ht : x.size ≤ 10000000) :
    Calls Try.prog 36 #[.agg #[.int .i64 x.f0, .string x.f1, .int .i64 x.f2, .slice A3 x.f3.length c3, .slice A4 x.f4.length c4]] w (RetS w (namesN x)) := by
  obtain ⟨k1, k2, k3, hb0⟩ := three_new (w := w) (O1 := .cells #[.int .i64 x.f0, .string x.f1, .int .i64 x.f2, .slice A3 x.f3.length c3, .slice A4 x.f4.length c4] 31) (O2 := .cells #[] 9) (O3 := .cells #[.slice (some ⟨w.heap.size + 1, 0, none⟩) 0 0] 39) (Below.refl _ _)
  obtain ⟨p0, p1, p2, p3, p4⟩ := fm_cells k1
  have hst : StS (w.heap.size + 1 + 1) w.heap.size (((w.alloc (.cells #[.int .i64 x.f0, .string x.f1, .int .i64 x.f2, .slice A3 x.f3.length c3, .slice A4 x.f4.length c4] 31)).alloc (.cells #[] 9)).alloc (.cells #[.slice (some ⟨w.heap.size + 1, 0, none⟩) 0 0] 39)) [w.heap.size + 1 + 1, w.heap.size + 1] [] := ⟨_, k3, ⟨by simp [encs], .inr ⟨_, 0, #[], rfl, by omega, k2, Nat.le_refl _, Nat.zero_le _, rfl, by simp [encs]⟩⟩, by simp [Value.ownBlock], by simp [obs, Value.ownBlock]⟩
  have HE := Lib.hid (eachForm_any w 95 #[.pointer (some ⟨w.heap.size + 1 + 1, 0, none⟩)] (StS (w.heap.size + 1 + 1) w.heap.size) nmStep List.length (fun _ => 1) 10000000 (enters_of Try.func95 (by kernel_rfl) rfl)
    StS.move StS.lt nmStep_len (fun y B3 d3 B4 d4 s S w1 hy hbW hsW hSW hNW => names1_any _ w y B3 d3 B4 d4 s S w1 hy hbW hsW hSW hNW) x A3 c3 A4 c4 [] _ _ hin hb0 hst (by simp; omega) (by rw [cost_nm]; simp; omega))
  have HB := Lib.hid hb0
  clear hin hb0 ht k1 k2 k3 hst
  go_enter Try.func36, Try.ntmps36
  go_wp2_with fail
  clear p0 p1 p2 p3 p4
  refine HE.out.mono ?_
  rintro e w5 ⟨rfl, S', hst, hM, hS'⟩
  obtain ⟨v, hg0, ho, hne, rfl⟩ := hst
  obtain ⟨D, m, rfl, _, _⟩ := own_CS ho
  have c0 := (blk_cell hg0 0).trans rfl
  have HF := Lib.hid (And.intro ho (HB.out.trans (hM.below HB.out.size (by simp; omega))))
  clear hM hS' hg0 ho hne
  go_wp2_with fail
  go_ret
  exact ⟨_, rfl, HF.out.1, HF.out.2⟩
def NmsOk (x : Fm) : Prop := ∀ (w0 : World) (A3 : Option Addr) (c3 : Nat) (A4 : Option Addr) (c4 : Nat) (v : Value) (s : List ByteArray) (w : World), FmIn w0 x A3 c3 A4 c4 → Below w0.heap.size w0 w → w.ownsRow w0.heap.size 9 1 v s.length (encS s) → s.length + x.size ≤ 10000000 →
  Calls Try.prog 98 #[v, .agg #[.int .i64 x.f0, .string x.f1, .int .i64 x.f2, .slice A3 x.f3.length c3, .slice A4 x.f4.length c4]] w (fun e w' => ∃ v', e = .returned v' ∧ w'.ownsRow w0.heap.size 9 1 v' (foldF nmStep x s).length (encS (foldF nmStep x s)) ∧ Mk (obs v) w w' ∧ ∀ b, b ∈ obs v' → b ∈ obs v ∨ w.heap.size ≤ b)
end Go.Proofs.Yteonncnhhccgeaa
end
section
namespace Go.Proofs.Yteonncnhhccgeaa
open Go.RowKit Go.Proofs.YteonncnhhccgeaaW.PrintWords Go.Proofs.YteonncnhhccgeaaW.PrintLast Go.Proofs.YteonncnhhccgeaaW.PrintMore
set_option linter.unusedVariables false
set_option linter.unusedSimpArgs false
/-- A form in new memory is handed back. -/
def GetSF (w : World) (x : Fm) (e : Ending) (w' : World) : Prop := ∃ A3 c3 A4 c4, e = .returned (.agg #[.int .i64 x.f0, .string x.f1, .int .i64 x.f2, .slice A3 x.f3.length c3, .slice A4 x.f4.length c4]) ∧ FmS w.heap.size w' x A3 c3 A4 c4 ∧ Below w.heap.size w w'
theorem GetSF.F {w : World} {x : Fm} {e : Ending} {w' : World} (h : GetSF w x e w') : GetF w x e w' := by
  obtain ⟨A3, c3, A4, c4, he, hs, hb⟩ := h
  exact ⟨A3, c3, A4, c4, he, hs.now, hb⟩
end Go.Proofs.Yteonncnhhccgeaa
end
section
namespace Go.Proofs.Yteonncnhhccgeaa
open Go.RowKit Go.Proofs.YteonncnhhccgeaaW.PrintWords Go.Proofs.YteonncnhhccgeaaW.PrintLast Go.Proofs.YteonncnhhccgeaaW.PrintMore
set_option linter.unusedVariables false
set_option linter.unusedSimpArgs false
/-- A row of strings is handed back. -/
def GetN (w : World) (r : List ByteArray) (e : Ending) (w' : World) : Prop := ∃ A c, e = .returned (.slice A r.length c) ∧ r.length ≤ c ∧ kS.C w' A r.length r ∧ Below w.heap.size w w'
theorem RetS.get {w : World} {r : List ByteArray} {e : Ending} {w' : World} (h : RetS w r e w') : GetN w r e w' := by
  obtain ⟨v, rfl, hn, hb⟩ := h
  obtain ⟨A, c, rfl, hc, hC⟩ := own_CS hn
  exact ⟨A, c, rfl, hc, hC, hb⟩
theorem implNm' {x : Fm} {l : List ByteArray} (h : namesN x = l) (A3 : Option Addr) (c3 : Nat) (A4 : Option Addr) (c4 : Nat) (w : World) (hin : FmIn w x A3 c3 A4 c4) (ht : x.tot ≤ 1048576) :
    Calls Try.prog 36 #[.agg #[.int .i64 x.f0, .string x.f1, .int .i64 x.f2, .slice A3 x.f3.length c3, .slice A4 x.f4.length c4]] w (GetN w l) := by
  subst h
  exact (implNames_own x A3 c3 A4 c4 w hin (by have := sizes_totL x; omega)).mono (fun e w' h => h.get)
theorem nmStep_nodup {s : List ByteArray} (h : s.Nodup) (y : Fm) : (nmStep s y).Nodup := by
  unfold nmStep
  split
  · rename_i hc
    rw [List.nodup_append]
    exact ⟨h, by simp, fun a ha b hb e => hc.2 (by simp at hb; rw [← hb, ← e]; exact ha)⟩
  · exact h
mutual
theorem names_nodup : ∀ (x : Fm) {s : List ByteArray}, s.Nodup → (foldF nmStep x s).Nodup
  | ⟨a, b, c, d, ks⟩, s, h => by rw [foldF]; exact names_nodupL ks (nmStep_nodup h _)
theorem names_nodupL : ∀ (ks : List Fm) {s : List ByteArray}, s.Nodup → (foldFs nmStep ks s).Nodup
  | [], s, h => by rw [foldFs]; exact h
  | k :: ks, s, h => by rw [foldFs]; exact names_nodupL ks (names_nodup k h)
end
theorem mem_nmStep (s : List ByteArray) (y : Fm) (n : ByteArray) : n ∈ nmStep s y ↔ n ∈ s ∨ (y.f0 = 1 ∧ n = y.f1) := by
  unfold nmStep
  split
  · rename_i hc
    rw [List.mem_append, List.mem_singleton]
    constructor
    · rintro (h | h)
      · exact .inl h
      · exact .inr ⟨hc.1, h⟩
    · rintro (h | h)
      · exact .inl h
      · exact .inr h.2
  · rename_i hc
    constructor
    · exact .inl
    · rintro (h | ⟨h1, h2⟩)
      · exact h
      · exact Classical.byContradiction fun hn => hc ⟨h1, fun hm => hn (h2 ▸ hm)⟩
mutual
theorem mem_names : ∀ (x : Fm) (s : List ByteArray) (n : ByteArray), n ∈ foldF nmStep x s ↔ n ∈ s ∨ n ∈ foldF nmStep x []
  | ⟨a, b, c, d, ks⟩, s, n => by
    rw [foldF, foldF, mem_namesL ks, mem_namesL ks (nmStep [] _), mem_nmStep, mem_nmStep]
    simp [or_assoc]
theorem mem_namesL : ∀ (ks : List Fm) (s : List ByteArray) (n : ByteArray), n ∈ foldFs nmStep ks s ↔ n ∈ s ∨ n ∈ foldFs nmStep ks []
  | [], s, n => by rw [foldFs, foldFs]; simp
  | k :: ks, s, n => by
    rw [foldFs, foldFs, mem_namesL ks, mem_namesL ks (foldF nmStep k []), mem_names k]
    simp [or_assoc]
end
theorem bare_ch (x : Fm) : x.bare = x.chS (fun _ => []) := by
  induction x using Fm.ind with
  | h x ih =>
    rw [Fm.bare_eq, Fm.chS_eq, List.map_congr_left (fun k hk => ih k hk)]
    simp
end Go.Proofs.Yteonncnhhccgeaa
end
section
namespace Go.Proofs.Yteonncnhhccgeaa
open Go.RowKit Go.Proofs.YteonncnhhccgeaaW.PrintWords Go.Proofs.YteonncnhhccgeaaW.PrintLast Go.Proofs.YteonncnhhccgeaaW.PrintMore
set_option linter.unusedVariables false
set_option linter.unusedSimpArgs false
abbrev AF (x : Fm) (A3 : Option Addr) (c3 : Nat) (A4 : Option Addr) (c4 : Nat) : Value := .agg #[.int .i64 x.f0, .string x.f1, .int .i64 x.f2, .slice A3 x.f3.length c3, .slice A4 x.f4.length c4]
theorem implSc' {x : Fm} {l : List Int} (h : scAll x = l) (A3 : Option Addr) (c3 : Nat) (A4 : Option Addr) (c4 : Nat) (w : World) (hin : FmIn w x A3 c3 A4 c4) (ht : x.tot ≤ 1048576) :
    Calls Try.prog 34 #[.agg #[.int .i64 x.f0, .string x.f1, .int .i64 x.f2, .slice A3 x.f3.length c3, .slice A4 x.f4.length c4]] w (GetI w l) := by
  subst h
  refine (implScopes_own x A3 c3 A4 c4 w hin ht).mono ?_
  rintro e w' ⟨v, rfl, hv, hb⟩
  obtain ⟨A, c, rfl, hc, hC⟩ := Kd.R_reads hv
  exact ⟨A, c, rfl, hc, hC, hb⟩
theorem scAll_ok {x : Fm} (h : FmOk x) : scAll x = foldF unionAll x [] := by unfold scAll; rw [if_pos (pB_iff.2 h)]
theorem scAll_len (x : Fm) : (scAll x).length ≤ x.tot := by
  unfold scAll
  split
  · have := len_all x []; simpa using this
  · simp
/-- What is true of each scope that each name's row holds is true of each scope of the form. -/
theorem all_chS {g : List Int → List Int} {P : Int → Prop} : ∀ x : Fm, AllNm (fun y => ∀ n, n ∈ g y.f3 → P n) x → ∀ n, n ∈ foldF unionAll (x.chS g) [] → P n := by
  intro x
  induction x using Fm.ind with
  | h x ih =>
    intro hA n hn
    rw [Fm.chS_eq, foldF, mem_allL] at hn
    have hl : ∀ (ks : List Fm), (∀ k, k ∈ ks → k ∈ x.f4) → ∀ n, n ∈ foldFs unionAll (ks.map (Fm.chS g)) [] → P n := by
      intro ks
      induction ks with
      | nil => intro _ n hn; rw [List.map_nil, foldFs] at hn; cases hn
      | cons k ks ih2 =>
        intro hs n hn
        rw [List.map_cons, foldFs, mem_allL] at hn
        rcases hn with hn | hn
        · exact ih k (hs k List.mem_cons_self) (hA.kid k (hs k List.mem_cons_self)) n hn
        · exact ih2 (fun k' hk => hs k' (List.mem_cons_of_mem _ hk)) n hn
    rcases hn with hn | hn
    · have hn2 : n ∈ (if x.f0 = 1 then g x.f3 else []).foldl putS [] := hn
      rw [mem_putL] at hn2
      rcases hn2 with hn2 | hn2
      · cases hn2
      · by_cases h1 : x.f0 = 1
        · rw [if_pos h1] at hn2; exact hA.at h1 n hn2
        · rw [if_neg h1] at hn2; cases hn2
    · exact hl x.f4 (fun _ h => h) n hn
theorem name_has {g : List Int → List Int} {n : Int} (hg : ∀ l, n ∈ g l) : ∀ x : Fm, (∃ m, m ∈ foldF nmStep x []) → n ∈ foldF unionAll (x.chS g) [] := by
  intro x
  induction x using Fm.ind with
  | h x ih =>
    rintro ⟨m, hm⟩
    rw [foldF_eq, mem_namesL, mem_nmStep] at hm
    rw [Fm.chS_eq, foldF, mem_allL]
    rcases hm with (hm | hm) | hm
    · cases hm
    · refine .inl ?_
      show n ∈ (if x.f0 = 1 then g x.f3 else []).foldl putS []
      rw [mem_putL, if_pos hm.1]
      exact .inr (hg _)
    · refine .inr ?_
      have key : ∀ ks : List Fm, (∀ k, k ∈ ks → k ∈ x.f4) → m ∈ foldFs nmStep ks [] → n ∈ foldFs unionAll (ks.map (Fm.chS g)) [] := by
        intro ks
        induction ks with
        | nil => intro _ h; rw [foldFs] at h; cases h
        | cons k ks ih2 =>
          intro hs h
          rw [foldFs, mem_namesL] at h
          rw [List.map_cons, foldFs, mem_allL]
          rcases h with h | h
          · exact .inl (ih k (hs k List.mem_cons_self) ⟨m, h⟩)
          · exact .inr (ih2 (fun k' hk => hs k' (List.mem_cons_of_mem _ hk)) h)
      exact key x.f4 (fun _ h => h) hm
end Go.Proofs.Yteonncnhhccgeaa
end
section
namespace Go.Proofs.Yteonncnhhccgeaa
open Go.RowKit Go.Proofs.YteonncnhhccgeaaW.PrintWords Go.Proofs.YteonncnhhccgeaaW.PrintLast Go.Proofs.YteonncnhhccgeaaW.PrintMore
set_option linter.unusedVariables false
set_option linter.unusedSimpArgs false
/-- A form reads, and goes on to where only the block g changes. -/
structure FmK (g : Nat) (w : World) (x : Fm) (A3 : Option Addr) (c3 : Nat) (A4 : Option Addr) (c4 : Nat) : Prop where mk ::
  out : ∀ W : World, Mk [g] w W → FmIn W x A3 c3 A4 c4
section
variable {g : Nat} {w W : World} {x : Fm} {A3 : Option Addr} {c3 : Nat} {A4 : Option Addr} {c4 : Nat}
theorem FmK.now (h : FmK g w x A3 c3 A4 c4) : FmIn w x A3 c3 A4 c4 := h.out w (Mk.refl _ _)
theorem FmK.move (h : FmK g w x A3 c3 A4 c4) (hm : Mk [g] w W) : FmK g W x A3 c3 A4 c4 := ⟨fun W' h' => h.out W' (hm.trans h')⟩
theorem FmK.later (h : FmK g w x A3 c3 A4 c4) (hb : Below w.heap.size w W) : FmK g W x A3 c3 A4 c4 := h.move (Mk.ofBelow hb)
/-- A form that reads ahead of the block g. -/
theorem FmK.elder {w0 : World} (h : FmIn w0 x A3 c3 A4 c4) (hb : Below w0.heap.size w0 w) (hg : w0.heap.size ≤ g) : FmK g w x A3 c3 A4 c4 :=
  ⟨fun W hm => h.below (hb.trans (hm.below hb.size (fun b hb2 => by simp at hb2; omega)))⟩
/-- A form in memory behind the block g. -/
theorem FmK.ofS {lo : Nat} (h : FmS lo w x A3 c3 A4 c4) (hg : g < lo) : FmK g w x A3 c3 A4 c4 :=
  ⟨fun W hm => h.out W (fun b h1 h2 => hm.keep b h2 (by simp; omega))⟩
end
theorem Mk.put5 (w : World) (g : Nat) (b0 b1 b2 b3 b4 : Value) : Mk [g] w (((((w.setCell ⟨g, 0, none⟩ b0).setCell ⟨g, 1, none⟩ b1).setCell ⟨g, 2, none⟩ b2).setCell ⟨g, 3, none⟩ b3).setCell ⟨g, 4, none⟩ b4) :=
  ((((Mk.set w (by simp) 0 b0).trans (Mk.set _ (by simp) 1 b1)).trans (Mk.set _ (by simp) 2 b2)).trans (Mk.set _ (by simp) 3 b3)).trans (Mk.set _ (by simp) 4 b4)
abbrev dropTo (x : Fm) (l : List Int) (i : Nat) : Fm := x.chS (fun s => (l.take i).foldl takeO s)
theorem srt_takes {s : List Int} (h : ScOk s) : ∀ l : List Int, ScOk (l.foldl takeO s) := by
  intro l
  induction l generalizing s with
  | nil => exact h
  | cons a l ih => exact ih (scOk_takeO h a)
theorem mem_takes : ∀ (l s : List Int) (n : Int), n ∈ l.foldl takeO s ↔ n ∈ s ∧ n ∉ l
  | [], s, n => by simp
  | a :: l, s, n => by
    rw [List.foldl_cons, mem_takes l, mem_takeO]
    simp [and_assoc]
theorem dropTo_ok {x : Fm} (h : FmOk x) (l : List Int) (i : Nat) : FmOk (dropTo x l i) :=
  (fmOk_chS h _).2 ((fmOk_sc h).imp (fun y hy => srt_takes hy _))
theorem dropTo_zero {x : Fm} (h : FmOk x) (l : List Int) : dropTo x l 0 = x := isOk_chS_id h.1
theorem dropTo_next (x : Fm) {l : List Int} {i : Nat} (h : i < l.length) : (dropTo x l i).chS (fun s => takeO s l[i]) = dropTo x l (i + 1) := by
  show (x.chS _).chS _ = x.chS _
  rw [chS_chS]
  congr 1
  funext s
  rw [List.take_succ_eq_append_getElem h, List.foldl_append]
  rfl
theorem dropTo_step {x : Fm} (h : FmOk x) {l : List Int} (hl : ∀ n, n ∈ l → 1 ≤ n ∧ n ≤ 99) {i : Nat} (hi : i < l.length) : reS (fun s => takeO s l[i]) l[i] (dropTo x l i) = (dropTo x l (i + 1), true) := by
  have hm := hl _ (List.getElem_mem hi)
  rw [reS_in (dropTo_ok h l i) hm.1 hm.2, dropTo_next x hi, orN_yes (dropTo_ok h l (i + 1))]
theorem all_self : ∀ x : Fm, AllNm (fun y => ∀ n, n ∈ y.f3 → n ∈ foldF unionAll x []) x := by
  intro x
  induction x using Fm.ind with
  | h x ih =>
    refine .mk x (fun h1 n hn => ?_) (fun k hk => ?_)
    · rw [foldF_eq, mem_allL]
      refine .inl ?_
      show n ∈ x.f3.foldl putS []
      rw [mem_putL]
      exact .inr hn
    · refine (ih k hk).imp (fun y hy n hn => ?_)
      have h1 := hy n hn
      rw [foldF_eq, mem_allL]
      refine .inr ?_
      have key : ∀ ks : List Fm, k ∈ ks → n ∈ foldFs unionAll ks [] := by
        intro ks
        induction ks with
        | nil => intro hm; cases hm
        | cons q qs ih2 =>
          intro hm
          rw [foldFs, mem_allL]
          rcases List.mem_cons.1 hm with rfl | hm
          · exact .inl h1
          · exact .inr (ih2 hm)
      exact key x.f4 hk
/-- All scopes taken off: nothing else of the form changes. -/
theorem dropTo_all {x : Fm} (h : FmOk x) : dropTo x (scAll x) (scAll x).length = x.bare := by
  rw [bare_ch]
  refine chS_ext ((all_self x).imp (fun y hy => ?_))
  rw [List.take_length, List.eq_nil_iff_forall_not_mem]
  intro n hn
  rw [mem_takes] at hn
  exact hn.2 (by rw [scAll_ok h]; exact hy n hn.1)
/-- The scopes of a valid form are scopes. -/
theorem scAll_in {x : Fm} (h : FmOk x) : ∀ n, n ∈ scAll x → 1 ≤ n ∧ n ≤ 99 := by
  intro n hn
  rw [scAll_ok h] at hn
  have := all_chS (g := fun l => l) (P := fun n => 1 ≤ n ∧ n ≤ 99) x ((fmOk_sc h).imp (fun y hy n hn => (scOk_iff.1 hy).2.2 n hn)) n
  rw [isOk_chS_id h.1] at this
  exact this hn
theorem RetT.getS {w : World} {p : Fm × Bool} {e : Ending} {w' : World} (h : RetT tellsNew w p e w') : GetFS w p.1 (.bool p.2) e w' := by
  obtain ⟨v3, v4, rfl, hn, hb⟩ := h
  obtain ⟨A3, c3, A4, c4, rfl, rfl, hs⟩ := NewF.toS hn
  exact ⟨A3, c3, A4, c4, rfl, hs, hb⟩
theorem implSDrop' {n : Int} {x z : Fm} {b : Bool} (hz : reS (fun l => takeO l n) n x = (z, b)) (A3 : Option Addr) (c3 : Nat) (A4 : Option Addr) (c4 : Nat) (w : World) (hin : FmIn w x A3 c3 A4 c4) (ht : x.tot ≤ 1048576) :
    Calls Try.prog 43 #[.agg #[.int .i64 x.f0, .string x.f1, .int .i64 x.f2, .slice A3 x.f3.length c3, .slice A4 x.f4.length c4], .int .i64 n] w (GetFS w z (.bool b)) := by
  have h := (implDrop_new n x A3 c3 A4 c4 w hin ht).mono (fun e w' h => h.getS)
  rw [hz] at h
  exact h
end Go.Proofs.Yteonncnhhccgeaa
end
section
-- PRINTED WORDS (module Derived/Print/Sized.lean): go-gate-2's, for the rows of laws over slices: an AI agent of Go's test side, Tue Nov 17 2026; no person has read it. Lean checks it.
namespace Go.Proofs.YteonncnhhccgeaaW.PrintWords
open Go.ChangeShapes Go.WideShapes
/-- A row's slice of whole numbers is no longer than its weight allows. -/
theorem sized_ints {H : Type} {enc : TypeId × Value → H} {P : Program} {W : World} {base : Nat} {spare : Nat → Bool} {held : Bool} {t e : TypeId} {k : IntKind} {a : Option Addr} {len cap : Nat} {d : DataW H} {ps : List MemPlace} {ts : List TypeId} {ds : List (DataW H)} {j : Nat}
    (hsz : (DataW.weightsEach P ts ds).all (· ≤ reachBytes) = true) (ht : ts[j]? = some t) (hd : ds[j]? = some d) (hu : P.underlying t = some (.slice e)) (he : P.underlying e = some (.int k)) (hc : P.cellsOf e = 1) {B : Nat} (hB : P.bytesOf e = B)
    (h : DataW.Trod enc P W base spare held t (.slice a len cap) d ps) : len * B ≤ 140737488351232 := by
  obtain ⟨fuel, hf⟩ := h
  rcases open_ints hu he hc hf with ⟨hcs, _⟩ | ⟨x, l, c, zs, hcs, _, hl, _, hz, hx, _, _⟩
  · simp [Value.cells] at hcs
    obtain ⟨rfl, rfl, rfl⟩ := hcs
    simp
  · simp [Value.cells] at hcs
    obtain ⟨rfl, rfl, rfl⟩ := hcs
    obtain ⟨hx, _⟩ := Prod.mk.inj hx
    subst hx
    have z := sized_slice hsz ht hd hu
    rw [hB] at z
    have hl2 : len ≤ zs.length := by
      rw [hz]
      split
      · exact hl
      · exact Nat.le_refl _
    have h1 : (lits (H := H) k (zs.take len)).length + (lits (H := H) k (zs.drop len)).length = zs.length := by
      simp [lits]
      omega
    rw [h1] at z
    exact Nat.le_trans (Nat.mul_le_mul_right _ hl2) z
end Go.Proofs.YteonncnhhccgeaaW.PrintWords
end
section
namespace Go.Proofs.Yteonncnhhccgeaa
open Go.RowKit Go.Proofs.YteonncnhhccgeaaW.PrintWords Go.Proofs.YteonncnhhccgeaaW.PrintLast Go.Proofs.YteonncnhhccgeaaW.PrintMore
set_option linter.unusedVariables false
set_option linter.unusedSimpArgs false
/-- Two forms are handed back. -/
def GetTwo (w : World) (x y : Fm) (e : Ending) (w' : World) : Prop := ∃ A3 c3 A4 c4 B3 d3 B4 d4, e = .returned (.tuple #[.agg #[.int .i64 x.f0, .string x.f1, .int .i64 x.f2, .slice A3 x.f3.length c3, .slice A4 x.f4.length c4], .agg #[.int .i64 y.f0, .string y.f1, .int .i64 y.f2, .slice B3 y.f3.length d3, .slice B4 y.f4.length d4]]) ∧ FmIn w' x A3 c3 A4 c4 ∧ FmIn w' y B3 d3 B4 d4 ∧ Below w.heap.size w w'
/-- The form of a name without scopes. -/
abbrev lnm (n : ByteArray) : Fm := ⟨1, n, 0, [], []⟩
theorem lnm_in (n : ByteArray) (w : World) : FmIn w (lnm n) none 0 none 0 := ⟨Nat.le_refl 0, Kd.C_nil kI w, Nat.le_refl 0, Kd.C_nil kF w⟩
theorem l1Name_any (n : ByteArray) (w : World) : Calls Try.prog 114 #[.string n] w (fun e w' => e = .returned (.agg #[.int .i64 1, .string n, .int .i64 0, .slice none 0 0, .slice none 0 0]) ∧ Below w.heap.size w w') := by
  have k0 := blk_new w (.cells #[.int .i64 1, .string n, .int .i64 0, .slice none 0 0, .slice none 0 0] 31)
  obtain ⟨q0, q1, q2, q3, q4⟩ := fm_cells k0
  have HB := Lib.hid (below_new w (.cells #[.int .i64 1, .string n, .int .i64 0, .slice none 0 0, .slice none 0 0] 31))
  clear k0
  go_enter Try.func114, Try.ntmps114
  go_wp2_with fail
  refine bodyPost_ret (v := .agg #[.int .i64 1, .string n, .int .i64 0, .slice none 0 0, .slice none 0 0]) (by simp [results, Try.results114, go_sem, q0, q1, q2, q3, q4]) rfl ?_
  exact ⟨rfl, HB.out⟩
end Go.Proofs.Yteonncnhhccgeaa
end
section
namespace Go.Proofs.Yteonncnhhccgeaa
open Go.RowKit Go.Proofs.YteonncnhhccgeaaW.PrintWords Go.Proofs.YteonncnhhccgeaaW.PrintLast Go.Proofs.YteonncnhhccgeaaW.PrintMore
set_option linter.unusedVariables false
set_option linter.unusedSimpArgs false
def IsName (x : Fm) : Prop := x.f0 = 1 ∧ FmOk x
theorem isName_any (x : Fm) (A3 : Option Addr) (c3 : Nat) (A4 : Option Addr) (c4 : Nat) (w : World) (hin : FmIn w x A3 c3 A4 c4) (ht : x.tot ≤ 1048576) :
    Calls Try.prog 115 #[.agg #[.int .i64 x.f0, .string x.f1, .int .i64 x.f2, .slice A3 x.f3.length c3, .slice A4 x.f4.length c4]] w (Ret w (.bool (pB (IsName x)))) := by
  have HC := Lib.hid (implValid_any x A3 c3 A4 c4 _ (hin.below (below_new w (.cells #[.int .i64 x.f0, .string x.f1, .int .i64 x.f2, .slice A3 x.f3.length c3, .slice A4 x.f4.length c4] 31))) ht)
  have HB := Lib.hid (below_new w (.cells #[.int .i64 x.f0, .string x.f1, .int .i64 x.f2, .slice A3 x.f3.length c3, .slice A4 x.f4.length c4] 31))
  clear hin ht
  by_cases k1 : x.f0 = 1
  · have e1 : (x.f0 == 1) = true := by simpa using k1
    have K1 := Lib.hid k1
    clear k1
    go_enter Try.func115, Try.ntmps115
    go_wp2_with fail
    refine HC.out.mono ?_
    rintro e w1 ⟨rfl, hb1⟩
    generalize hE : pB (FmOk x) = E
    have HE := Lib.hid hE
    have HB1 := Lib.hid (below_step HB.out hb1)
    clear hE hb1
    go_wp2_with fail
    go_ret
    exact ⟨ret_b (pB_of (by rw [← HE.out, pB_iff]; exact ⟨fun h => ⟨K1.out, h⟩, fun h => h.2⟩)), HB1.out⟩
  · have e1 : (x.f0 == 1) = false := by simpa using k1
    have K1 := Lib.hid k1
    clear k1 HC
    go_enter Try.func115, Try.ntmps115
    go_wp2_with fail
    go_ret
    exact ⟨ret_b (pB_no (fun h => K1.out h.1)), HB.out⟩
def SmName (x y : Fm) : Prop := FmOk x ∧ FmOk y ∧ x.f0 = 1 ∧ x = y
set_option maxHeartbeats 2000000 in
theorem implSameName_any (x y : Fm) (A3 : Option Addr) (c3 : Nat) (A4 : Option Addr) (c4 : Nat) (B3 : Option Addr) (d3 : Nat) (B4 : Option Addr) (d4 : Nat) (w : World) (hx : FmIn w x A3 c3 A4 c4) (hy : FmIn w y B3 d3 B4 d4) (tx : x.tot ≤ 1048576) (ty : y.tot ≤ 1048576) :
    Calls Try.prog 66 #[.agg #[.int .i64 x.f0, .string x.f1, .int .i64 x.f2, .slice A3 x.f3.length c3, .slice A4 x.f4.length c4], .agg #[.int .i64 y.f0, .string y.f1, .int .i64 y.f2, .slice B3 y.f3.length d3, .slice B4 y.f4.length d4]] w (Ret w (.bool (pB (SmName x y)))) := by
  have HC := Lib.hid (fun W hb => isName_any x A3 c3 A4 c4 W (hx.below hb) tx)
  have HD := Lib.hid (fun W hb => isName_any y B3 d3 B4 d4 W (hy.below hb) ty)
  have HS := Lib.hid (fun W hb => implSame_any x y A3 c3 A4 c4 B3 d3 B4 d4 W (hx.below hb) (hy.below hb))
  clear hx hy tx ty
  go_enter Try.func66, Try.ntmps66
  go_wp2_with fail
  refine (HC.out _ (below_step (below_new w _) (below_new _ _))).mono ?_
  rintro e w1 ⟨rfl, hb1⟩
  obtain ⟨k1, l1, b1⟩ := two_new hb1
  clear hb1
  obtain ⟨p0, p1, p2, p3, p4⟩ := fm_cells k1
  obtain ⟨q0, q1, q2, q3, q4⟩ := fm_cells l1
  cases hE : pB (IsName x) with
  | false =>
    have HE := Lib.hid hE
    have B1 := Lib.hid b1
    clear hE b1 k1 l1
    go_wp2_with fail
    go_ret
    exact ⟨ret_b (pB_no (fun h => by have := pB_yes (show IsName x from ⟨h.2.2.1, h.1⟩); rw [HE.out] at this; cases this)), B1.out⟩
  | true =>
    have HE := Lib.hid hE
    clear hE
    go_wp2_with fail
    refine (HD.out _ b1).mono ?_
    rintro e w2 ⟨rfl, hb2⟩
    have k2 := blk_below k1 hb2
    have l2 := blk_below l1 hb2
    have b2 := below_step b1 hb2
    clear hb2 k1 l1 b1 p0 p1 p2 p3 p4 q0 q1 q2 q3 q4
    obtain ⟨p0, p1, p2, p3, p4⟩ := fm_cells k2
    obtain ⟨q0, q1, q2, q3, q4⟩ := fm_cells l2
    cases hF : pB (IsName y) with
    | false =>
      have HF := Lib.hid hF
      have B2 := Lib.hid b2
      clear hF b2 k2 l2
      go_wp2_with fail
      go_ret
      exact ⟨ret_b (pB_no (fun h => by have := pB_yes (show IsName y from ⟨h.2.2.2 ▸ h.2.2.1, h.2.1⟩); rw [HF.out] at this; cases this)), B2.out⟩
    | true =>
      have HF := Lib.hid hF
      clear hF
      have B2 := Lib.hid b2
      clear b2 k2 l2
      go_wp2_with fail
      refine (HS.out _ B2.out).mono ?_
      rintro e w3 ⟨rfl, hb3⟩
      have B3 := Lib.hid (below_step B2.out hb3)
      generalize hG : eqB x y = G
      have HG := Lib.hid hG
      clear hb3 hG
      go_wp2_with fail
      go_ret
      exact ⟨ret_b (pB_of (by rw [← HG.out, eqB_iff]; exact ⟨fun h => ⟨(pB_iff.1 HE.out).2, (pB_iff.1 HF.out).2, (pB_iff.1 HE.out).1, h⟩, fun h => h.2.2.2⟩)), B3.out⟩
end Go.Proofs.Yteonncnhhccgeaa
end
