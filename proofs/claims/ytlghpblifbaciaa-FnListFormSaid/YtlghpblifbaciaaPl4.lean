/- Words for the laws' proofs (part 4): contracts of functions, and plain lemmas. -/
import Derived.ChangeSlices
import Derived.Deep.DeepMust
import Derived.SizedLaws
import Derived.Test.YtlghpblifbaciaaPl1
import Derived.Test.YtlghpblifbaciaaPl2
import Derived.Test.YtlghpblifbaciaaPl3
section
namespace Go.Proofs.Ytlghpblifbaciaa.Q
open Go.RowKit Go.Proofs.YtlghpblifbaciaaW.PrintWords Go.Proofs.YtlghpblifbaciaaW.PrintLast Go.Proofs.YtlghpblifbaciaaW.PrintMore
attribute [local go_sem] max2_int min2_int max_two min_two max_three min_three max_four min_four   -- for this text's walks alone
set_option linter.unusedVariables false
set_option linter.unusedSimpArgs false

/-! ### spec_l1Some: function 119 -/
mutual
def spec_l1Some.j0 : Nat → Int → Bool → List Int → Int → Option (Int × ByteArray × Int × List Int × (List (S31)) × Int)
  | 0, _, _, _, _ => none
  | k + 1, x1, x13, x1000, x1001 => if x13 = true then ((spec_l15Rd_pick.f k x1000 x1001 4).bind fun bt117 => (if bt117.1 = 0 then ((spec_l15Rd_num.f k x1000 bt117.2 (([0, 1, 2, 7, 42, 999] : List Int))).bind fun bt122 => (some (2, (⟨#[]⟩ : ByteArray), bt122.1, ([] : List Int), ([] : List (S31)), bt122.2))) else ((spec_l15Rd_of.f k x1000 bt117.2 (([(⟨#[97]⟩ : ByteArray), (⟨#[98]⟩ : ByteArray), (⟨#[120]⟩ : ByteArray), (⟨#[121]⟩ : ByteArray), (⟨#[102]⟩ : ByteArray), (⟨#[105, 102]⟩ : ByteArray), (⟨#[108, 101, 116]⟩ : ByteArray), (⟨#[43]⟩ : ByteArray)] : List ByteArray))).bind fun bt127 => ((spec_l1Name.f bt127.1).bind fun bt129 => (some (bt129.1, bt129.2.1, bt129.2.2.1, bt129.2.2.2.1, bt129.2.2.2.2, bt127.2)))))) else ((spec_l15Rd_pick.f k x1000 x1001 4).bind fun bt139 => (spec_l1Some.l0 k x1 bt139.1 x1000 bt139.2 3 (⟨#[]⟩ : ByteArray) 0 ([] : List (S31))))
def spec_l1Some.l0 : Nat → Int → Int → List Int → Int → Int → ByteArray → Int → List (S31) → Option (Int × ByteArray × Int × List Int × (List (S31)) × Int)
  | 0, _, _, _, _, _, _, _, _ => none
  | k + 1, x1, x6, x1000, x1001, x139000, x139001, x139002, x139004 => if x6 > 0 then ((spec_l1Some.f k x1000 x1001 (wrap64 (x1 - 1))).bind fun bt141 => (if x139004.length < 1759218604441 then (spec_l1Some.l0 k x1 (wrap64 (x6 - 1)) x1000 bt141.2.2.2.2.2 x139000 x139001 x139002 (x139004 ++ [(⟨bt141.1, bt141.2.1, bt141.2.2.1, bt141.2.2.2.1, bt141.2.2.2.2.1⟩ : S31)])) else (none))) else (some (x139000, x139001, x139002, ([] : List Int), x139004, x1001))
def spec_l1Some.f : Nat → List Int → Int → Int → Option (Int × ByteArray × Int × List Int × (List (S31)) × Int)
  | 0, _, _, _ => none
  | k + 1, s0_0, s0_1, a1 => if a1 = 0 then (spec_l1Some.j0 k a1 true s0_0 s0_1) else ((spec_l15Rd_pick.f k s0_0 s0_1 3).bind fun bt115 => (spec_l1Some.j0 k a1 (bt115.1 == 0) s0_0 bt115.2))
end
theorem spec_l1Some.mono_l : ∀ k, (∀ y0 y1 y2, LeO (spec_l1Some.f k y0 y1 y2) (spec_l1Some.f (k + 1) y0 y1 y2)) ∧ (∀ y0 y1 y2 y3, LeO (spec_l1Some.j0 k y0 y1 y2 y3) (spec_l1Some.j0 (k + 1) y0 y1 y2 y3)) ∧ (∀ y0 y1 y2 y3 y4 y5 y6 y7, LeO (spec_l1Some.l0 k y0 y1 y2 y3 y4 y5 y6 y7) (spec_l1Some.l0 (k + 1) y0 y1 y2 y3 y4 y5 y6 y7))
  | 0 => ⟨fun _ _ _ r h => by simp [spec_l1Some.f] at h, fun _ _ _ _ r h => by simp [spec_l1Some.j0] at h, fun _ _ _ _ _ _ _ _ r h => by simp [spec_l1Some.l0] at h⟩
  | k + 1 => by
    obtain ⟨ih0, ih1, ih2⟩ := spec_l1Some.mono_l k
    refine ⟨?_, ?_, ?_⟩
    · intro y0 y1 y2
      unfold spec_l1Some.f
      repeat' first
      | (with_reducible exact ih0 _ _ _)
      | (with_reducible exact ih1 _ _ _ _)
      | (with_reducible exact ih2 _ _ _ _ _ _ _ _)
      | (with_reducible exact spec_l15Rd_num.mono _ _ _ _)
      | (with_reducible exact spec_l15Rd_of.mono _ _ _ _)
      | (with_reducible exact spec_l15Rd_pick.mono _ _ _ _)
      | (with_reducible exact LeO.refl _)
      | (with_reducible exact LeO.none _)
      | (with_reducible refine LeO.ite ?_ ?_)
      | (with_reducible refine LeO.bind ?_ (fun _ => ?_))
      | exact ih0 _ _ _
      | exact ih1 _ _ _ _
      | exact ih2 _ _ _ _ _ _ _ _
      | exact spec_l15Rd_num.mono _ _ _ _
      | exact spec_l15Rd_of.mono _ _ _ _
      | exact spec_l15Rd_pick.mono _ _ _ _
      | exact LeO.none _
      | refine LeO.ite ?_ ?_
      | refine LeO.bind ?_ (fun _ => ?_)
    · intro y0 y1 y2 y3
      unfold spec_l1Some.j0
      repeat' first
      | (with_reducible exact ih0 _ _ _)
      | (with_reducible exact ih1 _ _ _ _)
      | (with_reducible exact ih2 _ _ _ _ _ _ _ _)
      | (with_reducible exact spec_l15Rd_num.mono _ _ _ _)
      | (with_reducible exact spec_l15Rd_of.mono _ _ _ _)
      | (with_reducible exact spec_l15Rd_pick.mono _ _ _ _)
      | (with_reducible exact LeO.refl _)
      | (with_reducible exact LeO.none _)
      | (with_reducible refine LeO.ite ?_ ?_)
      | (with_reducible refine LeO.bind ?_ (fun _ => ?_))
      | exact ih0 _ _ _
      | exact ih1 _ _ _ _
      | exact ih2 _ _ _ _ _ _ _ _
      | exact spec_l15Rd_num.mono _ _ _ _
      | exact spec_l15Rd_of.mono _ _ _ _
      | exact spec_l15Rd_pick.mono _ _ _ _
      | exact LeO.none _
      | refine LeO.ite ?_ ?_
      | refine LeO.bind ?_ (fun _ => ?_)
    · intro y0 y1 y2 y3 y4 y5 y6 y7
      unfold spec_l1Some.l0
      repeat' first
      | (with_reducible exact ih0 _ _ _)
      | (with_reducible exact ih1 _ _ _ _)
      | (with_reducible exact ih2 _ _ _ _ _ _ _ _)
      | (with_reducible exact spec_l15Rd_num.mono _ _ _ _)
      | (with_reducible exact spec_l15Rd_of.mono _ _ _ _)
      | (with_reducible exact spec_l15Rd_pick.mono _ _ _ _)
      | (with_reducible exact LeO.refl _)
      | (with_reducible exact LeO.none _)
      | (with_reducible refine LeO.ite ?_ ?_)
      | (with_reducible refine LeO.bind ?_ (fun _ => ?_))
      | exact ih0 _ _ _
      | exact ih1 _ _ _ _
      | exact ih2 _ _ _ _ _ _ _ _
      | exact spec_l15Rd_num.mono _ _ _ _
      | exact spec_l15Rd_of.mono _ _ _ _
      | exact spec_l15Rd_pick.mono _ _ _ _
      | exact LeO.none _
      | refine LeO.ite ?_ ?_
      | refine LeO.bind ?_ (fun _ => ?_)
theorem spec_l1Some.mono : ∀ a0 a1 a2 k, LeO (spec_l1Some.f k a0 a1 a2) (spec_l1Some.f (k + 1) a0 a1 a2) := by
  intro a0 a1 a2 k
  obtain ⟨ih0, ih1, ih2⟩ := spec_l1Some.mono_l k
  exact ih0 a0 a1 a2
def spec_l1Some.T9 : Bool × List (List Nat × List Nat) := (true, [([], []), ([0], [0]), ([], []), ([], []), ([3], [3]), ([2, 4], [2, 4]), ([5], [5]), ([1, 6, 5], [1, 6]), ([0, 1, 2, 3, 4, 5, 6, 7], []), ([8, 7, 7, 0, 1, 2, 3, 4, 5, 6, 7], [7, 8])])
def spec_l1Some.B9 : List Nat := [0, 1, 0, 0, 8, 28, 60, 127, 255, 511]
theorem spec_l1Some.tab9 : rtab .any (opsOf Try.f119 9) = spec_l1Some.T9 := by kernel_rfl
theorem spec_l1Some.bits9 : waitsOk spec_l1Some.T9.2 spec_l1Some.B9 = true := by kernel_rfl
set_option maxHeartbeats 8000000 in
set_option maxRecDepth 100000 in
theorem spec_l1Some.calls (k : Nat) : ∀ (g : Nat) (s0_0 : List Int) (s0_1 : Int) (a1 : Int) (r1 : Int) (r2 : ByteArray) (r3 : Int) (r4 : List Int) (r5 : List (S31)) (r6 : Int) (w0 w : World) (hI : IsS108 w0 w g s0_0 s0_1) (hB : Below w0.heap.size w0 w) (h : spec_l1Some.f k s0_0 s0_1 a1 = some (r1, r2, r3, r4, r5, r6)),
    Calls Try.prog 119 #[.pointer (some ⟨g, 0, none⟩), .int .i64 a1] w fun e w' => ∃ v3_ v4_ : Value, e = .returned (.agg #[.int .i64 r1, .string r2, .int .i64 r3, v3_, v4_]) ∧ Kd.R (Kd.int .i64) 3 w' w.heap.size (fun _ => True) v3_ r4 ∧ Kd.R k31 31 w' w.heap.size (fun k_ => some k_ ≠ (v3_ : Value).ownBlock) v4_ r5 ∧ IsS108 w0 w' g s0_0 r6 ∧ Below w0.heap.size w0 w' ∧ KeepBut w w' g none := by
  induction k using Nat.strongRecOn with
  | _ k ih =>
  intro g s0_0 s0_1 a1 r1 r2 r3 r4 r5 r6 w0 w hI hB h
  cases k with
  | zero => exact absurd h (by simp [spec_l1Some.f])
  | succ k =>
  simp only [spec_l1Some.f] at h
  have hu31 := Try.underlying31
  have HI0 := Aside0.mk hI
  have HK := Aside0.mk (KeepBut.refl w g none)
  have HL := Aside0.mk hB.size
  clear hI
  have HW0 := Aside0.mk hB.size
  have HB := Aside0.mk hB
  clear hB
  have H : (if a1 = 0 then (spec_l1Some.j0 k a1 true s0_0 s0_1) else ((spec_l15Rd_pick.f k s0_0 s0_1 3).bind fun bt115 => (spec_l1Some.j0 k a1 (bt115.1 == 0) s0_0 bt115.2))) = some (r1, r2, r3, r4, r5, r6) := h
  clear h
  have HC3 := Aside0.mk H
  clear H
  go_enter Try.func119, Try.ntmps119
  go_upto_region 1 with (first | ((with_reducible refine gate_dst (N := 4) rfl ?_); refine box_event ?hg (N := 4) ?hd (cs := #[.int .i64 0, .string (⟨#[]⟩ : ByteArray), .int .i64 0, .slice none 0 0, .slice none 0 0]) (t := 31) ?hr ?_; (case hd => rfl); (case hg => rfl); (case hr => first | (go_simp; done) | (go_simp; rfl)); intro gb114 hg w4 hbox hb; have n0_ := Aside0.mk (IsS108.below (by repeat (first | (with_reducible first | exact HI0.out | apply IsS108.alloc | apply IsS108.drewN | apply IsS108.drew | apply IsS108.set_1) | exact HI0.out)) hb); have n1_ := Aside0.mk (KeepBut.trans (by repeat (first | (with_reducible first | exact HK.out | apply KeepBut.set_ | apply keep_drewN | apply keep_drew | apply keep_alloc) | exact HK.out)) (KeepBut.of_below hb g none) (.inl rfl)); have n2_ := Aside0.mk (below_step (by repeat (first | (with_reducible first | exact HB.out | apply below_alloc | apply pw_below_drewN | apply below_drew1 | refine below_set ?_ (IsS108.ge HI0.out)) | exact HB.out)) hb); have n3_ := Aside0.mk (hbox); have n4_ := Aside0.mk ((by rw [hg]; exact (keep_size (w := w) (g := g) (row := none) (by repeat (first | (with_reducible first | exact HK.out | apply KeepBut.set_ | apply keep_drewN | apply keep_drew | apply keep_alloc) | exact HK.out))) : w.heap.size ≤ gb114)); have n5_ := Aside0.mk ((Nat.le_trans HW0.out (by rw [hg]; exact (keep_size (w := w) (g := g) (row := none) (by repeat (first | (with_reducible first | exact HK.out | apply KeepBut.set_ | apply keep_drewN | apply keep_drew | apply keep_alloc) | exact HK.out))) : w.heap.size ≤ gb114) : w0.heap.size ≤ gb114)); have n6_ := Aside0.mk ((by rw [hg]; exact Nat.ne_of_lt (IsS108.lt (show IsS108 w0 _ g s0_0 s0_1 from by repeat (first | (with_reducible first | exact HI0.out | apply IsS108.alloc | apply IsS108.drewN | apply IsS108.drew | apply IsS108.set_1) | exact HI0.out))) : g ≠ gb114)); have n7_ := Aside0.mk ((by rw [hg]; exact Nat.ne_of_gt (IsS108.lt (show IsS108 w0 _ g s0_0 s0_1 from by repeat (first | (with_reducible first | exact HI0.out | apply IsS108.alloc | apply IsS108.drewN | apply IsS108.drew | apply IsS108.set_1) | exact HI0.out))) : gb114 ≠ g)); clear HI0; clear HK; clear HB; have HI0 := n0_; have HK := n1_; have HB := n2_; have BK114 := n3_; have GW114 := n4_; have GE114 := n5_; have NB0_114 := n6_; have NB114_0 := n7_; clear n0_ n1_ n2_ n3_ n4_ n5_ n6_ n7_; clear hb hbox hg))
  (try simp only [Act.put, List.setIfInBounds_toArray, List.set_cons_zero, List.set_cons_succ])
  go_cut [13] (fun v13 wc => ∃ (kq : Nat) (x13_2 : Bool) (x1001_2 : Int), v13 = .bool x13_2 ∧ Aside0 (spec_l1Some.j0 kq a1 x13_2 s0_0 x1001_2 = some (r1, r2, r3, r4, r5, r6)) ∧ Aside0 (kq ≤ k) ∧ Aside0 (wc.heap[gb114]? = some (.cells #[.int .i64 0, .string (⟨#[]⟩ : ByteArray), .int .i64 0, (.slice none 0 0), (.slice none 0 0)] 31 (0, 0))) ∧ Aside0 (IsS108 w0 wc g s0_0 x1001_2) ∧ Aside0 (KeepBut w wc g none) ∧ Aside0 (Below w0.heap.size w0 wc))
  case first =>
    have H := HC3.out
    clear HC3
    by_cases c5 : a1 = 0
    · rw [if_pos c5] at H
      have c5b0 : (a1 == 0) = true := beq_iff_eq.mpr c5
      have c5b1 : (a1 != 0) = false := bne_eq_false_iff_eq.mpr c5
      clear c5
      (first | rw [c5b0] | (simp only [i64_w, i32_w]; rw [c5b0]) | skip)
      have H' := Aside0.mk H
      clear H
      go_wp2
      go_meet
      case rel => exact ⟨_, (true), (s0_1), (by first | rfl | (simp; done) | (simp [*]; done)), H', ⟨by first | omega | exact Nat.le_refl _⟩, ⟨by (with_reducible repeat (first | refine blk_drewN ?_ _ | refine blk_drew ?_ | refine blk_alloc ?_ _)); exact BK114.out⟩, ⟨by repeat (first | (with_reducible first | exact HI0.out | apply IsS108.alloc | apply IsS108.drewN | apply IsS108.drew | apply IsS108.set_1 | refine IsS108.far ?_ NB0_114.out _) | exact HI0.out)⟩, ⟨by repeat (first | (with_reducible first | exact HK.out | apply KeepBut.set_ | apply keep_drewN | apply keep_drew | apply keep_alloc | refine keep_far ?_ GW114.out _) | exact HK.out)⟩, ⟨by repeat (first | (with_reducible first | exact HB.out | apply below_alloc | apply pw_below_drewN | apply below_drew1 | refine below_set ?_ (IsS108.ge HI0.out) | refine below_set ?_ GE114.out) | exact HB.out)⟩⟩
    · rw [if_neg c5] at H
      have c5b0 : (a1 == 0) = false := beq_eq_false_iff_ne.mpr c5
      have c5b1 : (a1 != 0) = true := bne_iff_ne.mpr c5
      (first | rw [c5b0] | (simp only [i64_w, i32_w]; rw [c5b0]) | skip)
      replace H := Option.bind_eq_some_iff.mp H
      obtain ⟨⟨t115, t116⟩, A60, H⟩ := H
      replace H : (spec_l1Some.j0 k a1 (t115 == 0) s0_0 t116) = some (r1, r2, r3, r4, r5, r6) := H
      have A6 := Aside0.mk A60
      clear A60
      have H' := Aside0.mk H
      clear H
      go_wp2_with (first | (go_at_call 97; (with_reducible refine (spec_l15Rd_pick.calls k g s0_0 s0_1 3 t115 t116 w0 _ ?side1 ?side2 A6.out).mono ?_); (case side1 => repeat (first | (with_reducible first | exact HI0.out | apply IsS108.alloc | apply IsS108.drewN | apply IsS108.drew | apply IsS108.set_1 | refine IsS108.far ?_ NB0_114.out _) | exact HI0.out)); (case side2 => repeat (first | (with_reducible first | exact HB.out | apply below_alloc | apply pw_below_drewN | apply below_drew1 | refine below_set ?_ (IsS108.ge HI0.out) | refine below_set ?_ GE114.out) | exact HB.out)); rintro e w7 ⟨rfl, hi, hb, hk⟩; have n0_ := Aside0.mk (KeepBut.blk hk (g' := gb114) (o := .cells #[.int .i64 0, .string (⟨#[]⟩ : ByteArray), .int .i64 0, .slice none 0 0, .slice none 0 0] 31 (0, 0)) (by (with_reducible repeat (first | refine blk_drewN ?_ _ | refine blk_drew ?_ | refine blk_alloc ?_ _)); exact BK114.out) NB114_0.out (by simp)); have n1_ := Aside0.mk (KeepBut.trans (by repeat (first | (with_reducible first | exact HK.out | apply KeepBut.set_ | apply keep_drewN | apply keep_drew | apply keep_alloc | refine keep_far ?_ GW114.out _) | exact HK.out)) hk (.inl rfl)); have n2_ := Aside0.mk (hb); have n3_ := Aside0.mk (hi); clear BK114; clear HK; clear HB; clear HI0; have BK114 := n0_; have HK := n1_; have HB := n2_; have HI0 := n3_; clear n0_ n1_ n2_ n3_; (try clear hb); (try clear hb2); (try clear hk); (try clear hi)))
      go_meet
      case rel => exact ⟨_, ((t115 == 0)), (t116), (by first | rfl | (simp; done) | (simp [*]; done)), H', ⟨by first | omega | exact Nat.le_refl _⟩, ⟨by (with_reducible repeat (first | refine blk_drewN ?_ _ | refine blk_drew ?_ | refine blk_alloc ?_ _)); exact BK114.out⟩, ⟨by repeat (first | (with_reducible first | exact HI0.out | apply IsS108.alloc | apply IsS108.drewN | apply IsS108.drew | apply IsS108.set_1 | refine IsS108.far ?_ NB0_114.out _) | exact HI0.out)⟩, ⟨by repeat (first | (with_reducible first | exact HK.out | apply KeepBut.set_ | apply keep_drewN | apply keep_drew | apply keep_alloc | refine keep_far ?_ GW114.out _) | exact HK.out)⟩, ⟨by repeat (first | (with_reducible first | exact HB.out | apply below_alloc | apply pw_below_drewN | apply below_drew1 | refine below_set ?_ (IsS108.ge HI0.out) | refine below_set ?_ GE114.out) | exact HB.out)⟩⟩
  case rest =>
    clear HC3
    try clear c1
    try clear p2
    try clear c5
    try clear c5b0
    try clear c5b1
    obtain ⟨kq, x13_2, x1001_2, rfl, HA, HJ2, BK114, HI0, HK, HB⟩ := hcut
    cases kq with
    | zero => exact absurd HA.out (by simp [spec_l1Some.j0])
    | succ kj2 =>
      have H := HA.out
      clear HA
      simp only [spec_l1Some.j0] at H
      by_cases c8 : x13_2 = true
      · subst c8
        have H1 : ((spec_l15Rd_pick.f kj2 s0_0 x1001_2 4).bind fun bt117 => (if bt117.1 = 0 then ((spec_l15Rd_num.f kj2 s0_0 bt117.2 (([0, 1, 2, 7, 42, 999] : List Int))).bind fun bt122 => (some (2, (⟨#[]⟩ : ByteArray), bt122.1, ([] : List Int), ([] : List (S31)), bt122.2))) else ((spec_l15Rd_of.f kj2 s0_0 bt117.2 (([(⟨#[97]⟩ : ByteArray), (⟨#[98]⟩ : ByteArray), (⟨#[120]⟩ : ByteArray), (⟨#[121]⟩ : ByteArray), (⟨#[102]⟩ : ByteArray), (⟨#[105, 102]⟩ : ByteArray), (⟨#[108, 101, 116]⟩ : ByteArray), (⟨#[43]⟩ : ByteArray)] : List ByteArray))).bind fun bt127 => ((spec_l1Name.f bt127.1).bind fun bt129 => (some (bt129.1, bt129.2.1, bt129.2.2.1, bt129.2.2.2.1, bt129.2.2.2.2, bt127.2)))))) = some (r1, r2, r3, r4, r5, r6) := by rw [if_pos rfl] at H; exact H
        clear H
        have H := H1
        clear H1
        replace H := Option.bind_eq_some_iff.mp H
        obtain ⟨⟨t117, t118⟩, A90, H⟩ := H
        replace H : (if t117 = 0 then ((spec_l15Rd_num.f kj2 s0_0 t118 (([0, 1, 2, 7, 42, 999] : List Int))).bind fun bt122 => (some (2, (⟨#[]⟩ : ByteArray), bt122.1, ([] : List Int), ([] : List (S31)), bt122.2))) else ((spec_l15Rd_of.f kj2 s0_0 t118 (([(⟨#[97]⟩ : ByteArray), (⟨#[98]⟩ : ByteArray), (⟨#[120]⟩ : ByteArray), (⟨#[121]⟩ : ByteArray), (⟨#[102]⟩ : ByteArray), (⟨#[105, 102]⟩ : ByteArray), (⟨#[108, 101, 116]⟩ : ByteArray), (⟨#[43]⟩ : ByteArray)] : List ByteArray))).bind fun bt127 => ((spec_l1Name.f bt127.1).bind fun bt129 => (some (bt129.1, bt129.2.1, bt129.2.2.1, bt129.2.2.2.1, bt129.2.2.2.2, bt127.2))))) = some (r1, r2, r3, r4, r5, r6) := H
        have A9 := Aside0.mk A90
        clear A90
        by_cases c10 : t117 = 0
        · rw [if_pos c10] at H
          have c10b0 : (t117 == 0) = true := beq_iff_eq.mpr c10
          have c10b1 : (t117 != 0) = false := bne_eq_false_iff_eq.mpr c10
          clear c10
          obtain ⟨y119, hy119⟩ : ∃ y_ : List Int, y_ = (([0, 1, 2, 7, 42, 999] : List Int)) := ⟨_, rfl⟩
          replace H : ((spec_l15Rd_num.f kj2 s0_0 t118 y119).bind fun bt122 => (some (2, (⟨#[]⟩ : ByteArray), bt122.1, ([] : List Int), ([] : List (S31)), bt122.2))) = some (r1, r2, r3, r4, r5, r6) := by first | (rw [hy119]; with_reducible exact H) | (have H2_ := (Option.bind_some _ _).symm.trans H; rw [hy119]; with_reducible exact H2_) | (have H2_ := (Option.bind_some _ _).symm.trans H; with_reducible exact H2_) | with_reducible exact H | (rw [hy119]; exact H) | exact H
          have Ny119 := Aside0.mk hy119
          clear hy119
          replace H := Option.bind_eq_some_iff.mp H
          obtain ⟨⟨t122, t123⟩, A110, H⟩ := H
          replace H : (some (2, (⟨#[]⟩ : ByteArray), t122, ([] : List Int), ([] : List (S31)), t123)) = some (r1, r2, r3, r4, r5, r6) := H
          have A11 := Aside0.mk A110
          clear A110
          simp only [Option.some.injEq, Prod.mk.injEq] at H
          obtain ⟨rfl, rfl, rfl, rfl, rfl, rfl⟩ := H
          go_wp2_with (first | ((with_reducible refine gate_callee (f := 97) rfl ?_); refine goesL_ (some 15) rfl rfl Try.func97 (by kernel_rfl) rfl #[.pointer (some ⟨g, 0, none⟩), .int .i64 4] rfl (by (try simp only [List.map_toArray, List.map_cons, List.map_nil]); first | done | rfl | (simp only [List.length_drop, List.length_take]; rfl)) ?_; (with_reducible refine (spec_l15Rd_pick.calls kj2 g s0_0 x1001_2 4 t117 t118 w0 _ ?side1 ?side2 A9.out).mono ?_); (case side1 => repeat (first | (with_reducible first | exact HI0.out | apply IsS108.alloc | apply IsS108.drewN | apply IsS108.drew | apply IsS108.set_1 | refine IsS108.far ?_ NB0_114.out _) | exact HI0.out)); (case side2 => repeat (first | (with_reducible first | exact HB.out | apply below_alloc | apply pw_below_drewN | apply below_drew1 | refine below_set ?_ (IsS108.ge HI0.out) | refine below_set ?_ GE114.out) | exact HB.out)); rintro e w12 ⟨rfl, hi, hb, hk⟩; refine ⟨_, rfl, ?_⟩; have n0_ := Aside0.mk (KeepBut.blk hk (g' := gb114) (o := .cells #[.int .i64 0, .string (⟨#[]⟩ : ByteArray), .int .i64 0, .slice none 0 0, .slice none 0 0] 31 (0, 0)) (by (with_reducible repeat (first | refine blk_drewN ?_ _ | refine blk_drew ?_ | refine blk_alloc ?_ _)); exact BK114.out) NB114_0.out (by simp)); have n1_ := Aside0.mk (KeepBut.trans (by repeat (first | (with_reducible first | exact HK.out | apply KeepBut.set_ | apply keep_drewN | apply keep_drew | apply keep_alloc | refine keep_far ?_ GW114.out _) | exact HK.out)) hk (.inl rfl)); have n2_ := Aside0.mk (hb); have n3_ := Aside0.mk (hi); clear BK114; clear HK; clear HB; clear HI0; have BK114 := n0_; have HK := n1_; have HB := n2_; have HI0 := n3_; clear n0_ n1_ n2_ n3_; (try clear hb); (try clear hb2); (try clear hk); (try clear hi)) | ((with_reducible refine gate_dst (N := 18) rfl ?_); refine Kd.R_lit (Kd.int .i64) _ 3 ?hg (N := 18) ?hd (xs := ([0, 1, 2, 7, 42, 999] : List Int)) (inner := [.int .i64 0, .int .i64 1, .int .i64 2, .int .i64 7, .int .i64 42, .int .i64 999]) (ok := fun _ => True) (okp := fun _ => True) ?hr ?hp (fun _ hk => hk) trivial (Below.refl _ _) (Nat.le_refl _) (by simp) ?_; (case hd => rfl); (case hg => rfl); (case hr => first | (go_simp; done) | (go_simp; rfl)); (case hp => exact (Reps.one (show Kd.M (Kd.int .i64) _ _ _ 0 [.int .i64 0] from rfl) (Reps.one (show Kd.M (Kd.int .i64) _ _ _ 1 [.int .i64 1] from rfl) (Reps.one (show Kd.M (Kd.int .i64) _ _ _ 2 [.int .i64 2] from rfl) (Reps.one (show Kd.M (Kd.int .i64) _ _ _ 7 [.int .i64 7] from rfl) (Reps.one (show Kd.M (Kd.int .i64) _ _ _ 42 [.int .i64 42] from rfl) (Reps.one (show Kd.M (Kd.int .i64) _ _ _ 999 [.int .i64 999] from rfl) (Reps.none _ _)))))))); intro v120 w13 ho14 hb hg_ hnew_; clear hg_ hnew_; (first | rw [← Ny119.out] at ho14 | (simp only [Int.reduceToNat] at ho14; rw [← Ny119.out] at ho14)); have n0_ := Aside0.mk (Kd.R_lower ho14 (keep_size (w := w) (g := g) (row := none) (by repeat (first | (with_reducible first | exact HK.out | apply KeepBut.set_ | apply keep_drewN | apply keep_drew | apply keep_alloc | refine keep_far ?_ GW114.out _) | exact HK.out)))); have n1_ := Aside0.mk (blk_below (g := gb114) (o := .cells #[.int .i64 0, .string (⟨#[]⟩ : ByteArray), .int .i64 0, .slice none 0 0, .slice none 0 0] 31 (0, 0)) (by (with_reducible repeat (first | refine blk_drewN ?_ _ | refine blk_drew ?_ | refine blk_alloc ?_ _)); exact BK114.out) hb); have n2_ := Aside0.mk (IsS108.below (by repeat (first | (with_reducible first | exact HI0.out | apply IsS108.alloc | apply IsS108.drewN | apply IsS108.drew | apply IsS108.set_1 | refine IsS108.far ?_ NB0_114.out _) | exact HI0.out)) hb); have n3_ := Aside0.mk (KeepBut.trans (by repeat (first | (with_reducible first | exact HK.out | apply KeepBut.set_ | apply keep_drewN | apply keep_drew | apply keep_alloc | refine keep_far ?_ GW114.out _) | exact HK.out)) (KeepBut.of_below hb g none) (.inl rfl)); have n4_ := Aside0.mk (below_step (by repeat (first | (with_reducible first | exact HB.out | apply below_alloc | apply pw_below_drewN | apply below_drew1 | refine below_set ?_ (IsS108.ge HI0.out) | refine below_set ?_ GE114.out) | exact HB.out)) hb); clear BK114; clear HI0; clear HK; clear HB; have HO121 := n0_; have BK114 := n1_; have HI0 := n2_; have HK := n3_; have HB := n4_; clear n0_ n1_ n2_ n3_ n4_; clear hb ho14; obtain ⟨Ao15, co15, eo15⟩ := Kd.R_slice HO121.out; subst eo15) | ((with_reducible refine gate_callee (f := 120) rfl ?_); refine goesL_ (some 19) rfl rfl Try.func120 (by kernel_rfl) rfl #[.pointer (some ⟨g, 0, none⟩), .slice Ao15 y119.length co15] rfl (by (try simp only [List.map_toArray, List.map_cons, List.map_nil]); first | done | rfl | (simp only [List.length_drop, List.length_take]; rfl)) ?_; (with_reducible refine (spec_l15Rd_num.calls kj2 g s0_0 t118 _ _ y119 t122 t123 w0 _ ?side1 ?side2 ?side3 ?side4 ?side5 A11.out).mono ?_); (case side1 => repeat (first | (with_reducible first | exact HI0.out | apply IsS108.alloc | apply IsS108.drewN | apply IsS108.drew | apply IsS108.set_1 | refine IsS108.far ?_ NB0_114.out _) | exact HI0.out)); (case side2 => repeat (first | (with_reducible first | exact HB.out | apply below_alloc | apply pw_below_drewN | apply below_drew1 | refine below_set ?_ (IsS108.ge HI0.out) | refine below_set ?_ GE114.out) | exact HB.out)); (case side3 => repeat (first | exact (Kd.R_reads' HO121.out).2.2 | (with_reducible refine Kd.C_alloc ?_ _) | (with_reducible refine Kd.C_drewN ?_ _) | (with_reducible refine Kd.C_drew ?_))); (case side4 => exact (Kd.R_reads' HO121.out).2.1); (case side5 => exact far_slice (IsS108.own_ne HI0.out HO121.out (by decide))); rintro e w16 ⟨rfl, hi, hb, hk⟩; refine ⟨_, rfl, ?_⟩; have n0_ := Aside0.mk (KeepBut.blk hk (g' := gb114) (o := .cells #[.int .i64 0, .string (⟨#[]⟩ : ByteArray), .int .i64 0, .slice none 0 0, .slice none 0 0] 31 (0, 0)) (by (with_reducible repeat (first | refine blk_drewN ?_ _ | refine blk_drew ?_ | refine blk_alloc ?_ _)); exact BK114.out) NB114_0.out (by simp)); have n1_ := Aside0.mk (Kd.R_mono (Kd.R_keep (IsS108.apart (show IsS108 w0 _ g s0_0 t118 from by repeat (first | (with_reducible first | exact HI0.out | apply IsS108.alloc | apply IsS108.drewN | apply IsS108.drew | apply IsS108.set_1 | refine IsS108.far ?_ NB0_114.out _) | exact HI0.out)) (by (with_reducible repeat (first | apply Kd.R_alloc | apply Kd.R_drewN | apply Kd.R_drew)); exact HO121.out) (by decide)) hk (fun _ h => h.2)) (fun _ h => h.1)); have n2_ := Aside0.mk (KeepBut.trans (by repeat (first | (with_reducible first | exact HK.out | apply KeepBut.set_ | apply keep_drewN | apply keep_drew | apply keep_alloc | refine keep_far ?_ GW114.out _) | exact HK.out)) hk (.inl rfl)); have n3_ := Aside0.mk (hb); have n4_ := Aside0.mk (hi); clear BK114; clear HO121; clear HK; clear HB; clear HI0; have BK114 := n0_; have HO121 := n1_; have HK := n2_; have HB := n3_; have HI0 := n4_; clear n0_ n1_ n2_ n3_ n4_; (try clear hb); (try clear hb2); (try clear hk); (try clear hi); have hnb17 := NB114_0.out; have hnc17 := NB0_114.out; have hcz18_0 : w16.cell? ⟨gb114, 0, none⟩ = some (.int .i64 0) := (blk_cell BK114.out 0).trans rfl; have hcz18_1 : w16.cell? ⟨gb114, 1, none⟩ = some (.string (⟨#[]⟩ : ByteArray)) := (blk_cell BK114.out 1).trans rfl; have hcz18_2 : w16.cell? ⟨gb114, 2, none⟩ = some (.int .i64 0) := (blk_cell BK114.out 2).trans rfl; have hcz18_3 : w16.cell? ⟨gb114, 3, none⟩ = some (.slice none 0 0) := (blk_cell BK114.out 3).trans rfl; have hcz18_4 : w16.cell? ⟨gb114, 4, none⟩ = some (.slice none 0 0) := (blk_cell BK114.out 4).trans rfl; have hfz18_0 := blk_frozen BK114.out 0; have hfz18_1 := blk_frozen BK114.out 1; have hfz18_2 := blk_frozen BK114.out 2; have hfz18_3 := blk_frozen BK114.out 3; have hfz18_4 := blk_frozen BK114.out 4))
          refine bodyPost_ret (results_cell_row rfl _ _ gb114 31 #[.int .i64 2, .string (⟨#[]⟩ : ByteArray), .int .i64 t122, .slice none 0 0, .slice none 0 0] (0, 0) _ rfl (by (with_reducible repeat (first | refine blk_drewN ?_ _ | refine blk_drew ?_ | refine blk_alloc ?_ _)); refine blk_put (cs := #[.int .i64 2, .string (⟨#[]⟩ : ByteArray), .int .i64 t122, .slice none 0 0, .slice none 0 0]) ?_ 4 _ rfl; (with_reducible repeat (first | refine blk_drewN ?_ _ | refine blk_drew ?_ | refine blk_alloc ?_ _)); refine blk_put (cs := #[.int .i64 2, .string (⟨#[]⟩ : ByteArray), .int .i64 t122, .slice none 0 0, .slice none 0 0]) ?_ 3 _ rfl; (with_reducible repeat (first | refine blk_drewN ?_ _ | refine blk_drew ?_ | refine blk_alloc ?_ _)); refine blk_put (cs := #[.int .i64 2, .string (⟨#[]⟩ : ByteArray), .int .i64 0, .slice none 0 0, .slice none 0 0]) ?_ 2 _ rfl; (with_reducible repeat (first | refine blk_drewN ?_ _ | refine blk_drew ?_ | refine blk_alloc ?_ _)); refine blk_put (cs := #[.int .i64 2, .string (⟨#[]⟩ : ByteArray), .int .i64 0, .slice none 0 0, .slice none 0 0]) ?_ 1 _ rfl; (with_reducible repeat (first | refine blk_drewN ?_ _ | refine blk_drew ?_ | refine blk_alloc ?_ _)); refine blk_put (cs := #[.int .i64 0, .string (⟨#[]⟩ : ByteArray), .int .i64 0, .slice none 0 0, .slice none 0 0]) ?_ 0 _ rfl; (with_reducible repeat (first | refine blk_drewN ?_ _ | refine blk_drew ?_ | refine blk_alloc ?_ _)); exact BK114.out) Try.underlying31 rfl (by kernel_rfl)) rfl ?_
          exact ⟨_, _, by first | rfl | (simp [errW_none, errW_some] <;> rfl) | (simp [*, errW_none, errW_some] <;> rfl), by first | exact Kd.R_nil _ _ _ _ _ | exact Kd.N_nil _ _ _ _ _ | exact Kd.V_nil _ _ _ _ _ | exact Kd.Q_nil _ _ _ _ _ | exact Kd.S_nil _ _ _ _ _, by first | exact Kd.R_nil _ _ _ _ _ | exact Kd.N_nil _ _ _ _ _ | exact Kd.V_nil _ _ _ _ _ | exact Kd.Q_nil _ _ _ _ _ | exact Kd.S_nil _ _ _ _ _, by repeat (first | (with_reducible first | exact HI0.out | apply IsS108.alloc | apply IsS108.drewN | apply IsS108.drew | apply IsS108.set_1 | refine IsS108.far ?_ NB0_114.out _) | exact HI0.out), by repeat (first | (with_reducible first | exact HB.out | apply below_alloc | apply pw_below_drewN | apply below_drew1 | refine below_set ?_ (IsS108.ge HI0.out) | refine below_set ?_ GE114.out) | exact HB.out), by repeat (first | (with_reducible first | exact HK.out | apply KeepBut.set_ | apply keep_drewN | apply keep_drew | apply keep_alloc | refine keep_far ?_ GW114.out _) | exact HK.out)⟩
        · rw [if_neg c10] at H
          have c10b0 : (t117 == 0) = false := beq_eq_false_iff_ne.mpr c10
          have c10b1 : (t117 != 0) = true := bne_iff_ne.mpr c10
          obtain ⟨y124, hy124⟩ : ∃ y_ : List ByteArray, y_ = (([(⟨#[97]⟩ : ByteArray), (⟨#[98]⟩ : ByteArray), (⟨#[120]⟩ : ByteArray), (⟨#[121]⟩ : ByteArray), (⟨#[102]⟩ : ByteArray), (⟨#[105, 102]⟩ : ByteArray), (⟨#[108, 101, 116]⟩ : ByteArray), (⟨#[43]⟩ : ByteArray)] : List ByteArray)) := ⟨_, rfl⟩
          replace H : ((spec_l15Rd_of.f kj2 s0_0 t118 y124).bind fun bt127 => ((spec_l1Name.f bt127.1).bind fun bt129 => (some (bt129.1, bt129.2.1, bt129.2.2.1, bt129.2.2.2.1, bt129.2.2.2.2, bt127.2)))) = some (r1, r2, r3, r4, r5, r6) := by first | (rw [hy124]; with_reducible exact H) | (have H2_ := (Option.bind_some _ _).symm.trans H; rw [hy124]; with_reducible exact H2_) | (have H2_ := (Option.bind_some _ _).symm.trans H; with_reducible exact H2_) | with_reducible exact H | (rw [hy124]; exact H) | exact H
          have Ny124 := Aside0.mk hy124
          clear hy124
          replace H := Option.bind_eq_some_iff.mp H
          obtain ⟨⟨t127, t128⟩, A190, H⟩ := H
          replace H : ((spec_l1Name.f t127).bind fun bt129 => (some (bt129.1, bt129.2.1, bt129.2.2.1, bt129.2.2.2.1, bt129.2.2.2.2, t128))) = some (r1, r2, r3, r4, r5, r6) := H
          have A19 := Aside0.mk A190
          clear A190
          replace H := Option.bind_eq_some_iff.mp H
          obtain ⟨⟨t129, t130, t131, t132, t135⟩, A200, H⟩ := H
          replace H : (some (t129, t130, t131, t132, t135, t128)) = some (r1, r2, r3, r4, r5, r6) := H
          have A20 := Aside0.mk A200
          clear A200
          simp only [Option.some.injEq, Prod.mk.injEq] at H
          obtain ⟨rfl, rfl, rfl, rfl, rfl, rfl⟩ := H
          go_wp2_with (first | ((with_reducible refine gate_callee (f := 97) rfl ?_); refine goesL_ (some 15) rfl rfl Try.func97 (by kernel_rfl) rfl #[.pointer (some ⟨g, 0, none⟩), .int .i64 4] rfl (by (try simp only [List.map_toArray, List.map_cons, List.map_nil]); first | done | rfl | (simp only [List.length_drop, List.length_take]; rfl)) ?_; (with_reducible refine (spec_l15Rd_pick.calls kj2 g s0_0 x1001_2 4 t117 t118 w0 _ ?side1 ?side2 A9.out).mono ?_); (case side1 => repeat (first | (with_reducible first | exact HI0.out | apply IsS108.alloc | apply IsS108.drewN | apply IsS108.drew | apply IsS108.set_1 | refine IsS108.far ?_ NB0_114.out _) | exact HI0.out)); (case side2 => repeat (first | (with_reducible first | exact HB.out | apply below_alloc | apply pw_below_drewN | apply below_drew1 | refine below_set ?_ (IsS108.ge HI0.out) | refine below_set ?_ GE114.out) | exact HB.out)); rintro e w21 ⟨rfl, hi, hb, hk⟩; refine ⟨_, rfl, ?_⟩; have n0_ := Aside0.mk (KeepBut.blk hk (g' := gb114) (o := .cells #[.int .i64 0, .string (⟨#[]⟩ : ByteArray), .int .i64 0, .slice none 0 0, .slice none 0 0] 31 (0, 0)) (by (with_reducible repeat (first | refine blk_drewN ?_ _ | refine blk_drew ?_ | refine blk_alloc ?_ _)); exact BK114.out) NB114_0.out (by simp)); have n1_ := Aside0.mk (KeepBut.trans (by repeat (first | (with_reducible first | exact HK.out | apply KeepBut.set_ | apply keep_drewN | apply keep_drew | apply keep_alloc | refine keep_far ?_ GW114.out _) | exact HK.out)) hk (.inl rfl)); have n2_ := Aside0.mk (hb); have n3_ := Aside0.mk (hi); clear BK114; clear HK; clear HB; clear HI0; have BK114 := n0_; have HK := n1_; have HB := n2_; have HI0 := n3_; clear n0_ n1_ n2_ n3_; (try clear hb); (try clear hb2); (try clear hk); (try clear hi)) | ((with_reducible refine gate_dst (N := 22) rfl ?_); refine Kd.R_lit Kd.string _ 9 ?hg (N := 22) ?hd (xs := ([(⟨#[97]⟩ : ByteArray), (⟨#[98]⟩ : ByteArray), (⟨#[120]⟩ : ByteArray), (⟨#[121]⟩ : ByteArray), (⟨#[102]⟩ : ByteArray), (⟨#[105, 102]⟩ : ByteArray), (⟨#[108, 101, 116]⟩ : ByteArray), (⟨#[43]⟩ : ByteArray)] : List ByteArray)) (inner := [.string (⟨#[97]⟩ : ByteArray), .string (⟨#[98]⟩ : ByteArray), .string (⟨#[120]⟩ : ByteArray), .string (⟨#[121]⟩ : ByteArray), .string (⟨#[102]⟩ : ByteArray), .string (⟨#[105, 102]⟩ : ByteArray), .string (⟨#[108, 101, 116]⟩ : ByteArray), .string (⟨#[43]⟩ : ByteArray)]) (ok := fun _ => True) (okp := fun _ => True) ?hr ?hp (fun _ hk => hk) trivial (Below.refl _ _) (Nat.le_refl _) (by simp) ?_; (case hd => rfl); (case hg => rfl); (case hr => first | (go_simp; done) | (go_simp; rfl)); (case hp => exact (Reps.one (show Kd.M Kd.string _ _ _ (⟨#[97]⟩ : ByteArray) [.string (⟨#[97]⟩ : ByteArray)] from rfl) (Reps.one (show Kd.M Kd.string _ _ _ (⟨#[98]⟩ : ByteArray) [.string (⟨#[98]⟩ : ByteArray)] from rfl) (Reps.one (show Kd.M Kd.string _ _ _ (⟨#[120]⟩ : ByteArray) [.string (⟨#[120]⟩ : ByteArray)] from rfl) (Reps.one (show Kd.M Kd.string _ _ _ (⟨#[121]⟩ : ByteArray) [.string (⟨#[121]⟩ : ByteArray)] from rfl) (Reps.one (show Kd.M Kd.string _ _ _ (⟨#[102]⟩ : ByteArray) [.string (⟨#[102]⟩ : ByteArray)] from rfl) (Reps.one (show Kd.M Kd.string _ _ _ (⟨#[105, 102]⟩ : ByteArray) [.string (⟨#[105, 102]⟩ : ByteArray)] from rfl) (Reps.one (show Kd.M Kd.string _ _ _ (⟨#[108, 101, 116]⟩ : ByteArray) [.string (⟨#[108, 101, 116]⟩ : ByteArray)] from rfl) (Reps.one (show Kd.M Kd.string _ _ _ (⟨#[43]⟩ : ByteArray) [.string (⟨#[43]⟩ : ByteArray)] from rfl) (Reps.none _ _)))))))))); intro v125 w22 ho23 hb hg_ hnew_; clear hg_ hnew_; (first | rw [← Ny124.out] at ho23 | (simp only [Int.reduceToNat] at ho23; rw [← Ny124.out] at ho23)); have n0_ := Aside0.mk (Kd.R_lower ho23 (keep_size (w := w) (g := g) (row := none) (by repeat (first | (with_reducible first | exact HK.out | apply KeepBut.set_ | apply keep_drewN | apply keep_drew | apply keep_alloc | refine keep_far ?_ GW114.out _) | exact HK.out)))); have n1_ := Aside0.mk (blk_below (g := gb114) (o := .cells #[.int .i64 0, .string (⟨#[]⟩ : ByteArray), .int .i64 0, .slice none 0 0, .slice none 0 0] 31 (0, 0)) (by (with_reducible repeat (first | refine blk_drewN ?_ _ | refine blk_drew ?_ | refine blk_alloc ?_ _)); exact BK114.out) hb); have n2_ := Aside0.mk (IsS108.below (by repeat (first | (with_reducible first | exact HI0.out | apply IsS108.alloc | apply IsS108.drewN | apply IsS108.drew | apply IsS108.set_1 | refine IsS108.far ?_ NB0_114.out _) | exact HI0.out)) hb); have n3_ := Aside0.mk (KeepBut.trans (by repeat (first | (with_reducible first | exact HK.out | apply KeepBut.set_ | apply keep_drewN | apply keep_drew | apply keep_alloc | refine keep_far ?_ GW114.out _) | exact HK.out)) (KeepBut.of_below hb g none) (.inl rfl)); have n4_ := Aside0.mk (below_step (by repeat (first | (with_reducible first | exact HB.out | apply below_alloc | apply pw_below_drewN | apply below_drew1 | refine below_set ?_ (IsS108.ge HI0.out) | refine below_set ?_ GE114.out) | exact HB.out)) hb); clear BK114; clear HI0; clear HK; clear HB; have HO126 := n0_; have BK114 := n1_; have HI0 := n2_; have HK := n3_; have HB := n4_; clear n0_ n1_ n2_ n3_ n4_; clear hb ho23; obtain ⟨Ao24, co24, eo24⟩ := Kd.R_slice HO126.out; subst eo24) | ((with_reducible refine gate_callee (f := 151) rfl ?_); refine goesL_ (some 23) rfl rfl Try.func151 (by kernel_rfl) rfl #[.pointer (some ⟨g, 0, none⟩), .slice Ao24 y124.length co24] rfl (by (try simp only [List.map_toArray, List.map_cons, List.map_nil]); first | done | rfl | (simp only [List.length_drop, List.length_take]; rfl)) ?_; (with_reducible refine (spec_l15Rd_of.calls kj2 g s0_0 t118 _ _ y124 t127 t128 w0 _ ?side1 ?side2 ?side3 ?side4 ?side5 A19.out).mono ?_); (case side1 => repeat (first | (with_reducible first | exact HI0.out | apply IsS108.alloc | apply IsS108.drewN | apply IsS108.drew | apply IsS108.set_1 | refine IsS108.far ?_ NB0_114.out _) | exact HI0.out)); (case side2 => repeat (first | (with_reducible first | exact HB.out | apply below_alloc | apply pw_below_drewN | apply below_drew1 | refine below_set ?_ (IsS108.ge HI0.out) | refine below_set ?_ GE114.out) | exact HB.out)); (case side3 => repeat (first | exact (Kd.R_reads' HO126.out).2.2 | (with_reducible refine Kd.C_alloc ?_ _) | (with_reducible refine Kd.C_drewN ?_ _) | (with_reducible refine Kd.C_drew ?_))); (case side4 => exact (Kd.R_reads' HO126.out).2.1); (case side5 => exact far_slice (IsS108.own_ne HI0.out HO126.out (by decide))); rintro e w25 ⟨rfl, hi, hb, hk⟩; refine ⟨_, rfl, ?_⟩; have n0_ := Aside0.mk (KeepBut.blk hk (g' := gb114) (o := .cells #[.int .i64 0, .string (⟨#[]⟩ : ByteArray), .int .i64 0, .slice none 0 0, .slice none 0 0] 31 (0, 0)) (by (with_reducible repeat (first | refine blk_drewN ?_ _ | refine blk_drew ?_ | refine blk_alloc ?_ _)); exact BK114.out) NB114_0.out (by simp)); have n1_ := Aside0.mk (Kd.R_mono (Kd.R_keep (IsS108.apart (show IsS108 w0 _ g s0_0 t118 from by repeat (first | (with_reducible first | exact HI0.out | apply IsS108.alloc | apply IsS108.drewN | apply IsS108.drew | apply IsS108.set_1 | refine IsS108.far ?_ NB0_114.out _) | exact HI0.out)) (by (with_reducible repeat (first | apply Kd.R_alloc | apply Kd.R_drewN | apply Kd.R_drew)); exact HO126.out) (by decide)) hk (fun _ h => h.2)) (fun _ h => h.1)); have n2_ := Aside0.mk (KeepBut.trans (by repeat (first | (with_reducible first | exact HK.out | apply KeepBut.set_ | apply keep_drewN | apply keep_drew | apply keep_alloc | refine keep_far ?_ GW114.out _) | exact HK.out)) hk (.inl rfl)); have n3_ := Aside0.mk (hb); have n4_ := Aside0.mk (hi); clear BK114; clear HO126; clear HK; clear HB; clear HI0; have BK114 := n0_; have HO126 := n1_; have HK := n2_; have HB := n3_; have HI0 := n4_; clear n0_ n1_ n2_ n3_ n4_; (try clear hb); (try clear hb2); (try clear hk); (try clear hi)) | ((with_reducible refine gate_callee (f := 138) rfl ?_); refine goesL_ (some 24) rfl rfl Try.func138 (by kernel_rfl) rfl #[.string t127] rfl (by (try simp only [List.map_toArray, List.map_cons, List.map_nil]); first | done | rfl | (simp only [List.length_drop, List.length_take]; rfl)) ?_; (with_reducible refine (spec_l1Name.calls t127 t129 t130 t131 t132 t135 _ A20.out).mono ?_); rintro e w26 ⟨v133, v136, rfl, ho0, ho1, hb⟩; refine ⟨_, rfl, ?_⟩; have n0_ := Aside0.mk (Kd.R_below (by (with_reducible repeat (first | apply Kd.R_alloc | apply Kd.R_drewN | apply Kd.R_drew)); exact HO126.out) hb); have n1_ := Aside0.mk (Kd.R_lower ho0 (keep_size (w := w) (g := g) (row := none) (by repeat (first | (with_reducible first | exact HK.out | apply KeepBut.set_ | apply keep_drewN | apply keep_drew | apply keep_alloc | refine keep_far ?_ GW114.out _) | exact HK.out)))); have n2_ := Aside0.mk (Kd.R_lower (Kd.R_newB ho1 (g := gb114) (o := .cells #[.int .i64 0, .string (⟨#[]⟩ : ByteArray), .int .i64 0, .slice none 0 0, .slice none 0 0] 31 (0, 0)) (by (with_reducible repeat (first | refine blk_drewN ?_ _ | refine blk_drew ?_ | refine blk_alloc ?_ _)); exact BK114.out)) (keep_size (w := w) (g := g) (row := none) (by repeat (first | (with_reducible first | exact HK.out | apply KeepBut.set_ | apply keep_drewN | apply keep_drew | apply keep_alloc | refine keep_far ?_ GW114.out _) | exact HK.out)))); have n3_ := Aside0.mk (blk_below (g := gb114) (o := .cells #[.int .i64 0, .string (⟨#[]⟩ : ByteArray), .int .i64 0, .slice none 0 0, .slice none 0 0] 31 (0, 0)) (by (with_reducible repeat (first | refine blk_drewN ?_ _ | refine blk_drew ?_ | refine blk_alloc ?_ _)); exact BK114.out) hb); have n4_ := Aside0.mk (IsS108.below (by repeat (first | (with_reducible first | exact HI0.out | apply IsS108.alloc | apply IsS108.drewN | apply IsS108.drew | apply IsS108.set_1 | refine IsS108.far ?_ NB0_114.out _) | exact HI0.out)) hb); have n5_ := Aside0.mk (KeepBut.trans (by repeat (first | (with_reducible first | exact HK.out | apply KeepBut.set_ | apply keep_drewN | apply keep_drew | apply keep_alloc | refine keep_far ?_ GW114.out _) | exact HK.out)) (KeepBut.of_below hb g none) (.inl rfl)); have n6_ := Aside0.mk (below_step (by repeat (first | (with_reducible first | exact HB.out | apply below_alloc | apply pw_below_drewN | apply below_drew1 | refine below_set ?_ (IsS108.ge HI0.out) | refine below_set ?_ GE114.out) | exact HB.out)) hb); clear HO126; clear BK114; clear HI0; clear HK; clear HB; have HO126 := n0_; have HO134 := n1_; have HO137 := n2_; have BK114 := n3_; have HI0 := n4_; have HK := n5_; have HB := n6_; clear n0_ n1_ n2_ n3_ n4_ n5_ n6_; (try clear hb); (try clear hb2); (try clear hk); (try clear hi); (try clear ho0); (try clear ho1); have hnb27 := NB114_0.out; have hnc27 := NB0_114.out; have hcz28_0 : w26.cell? ⟨gb114, 0, none⟩ = some (.int .i64 0) := (blk_cell BK114.out 0).trans rfl; have hcz28_1 : w26.cell? ⟨gb114, 1, none⟩ = some (.string (⟨#[]⟩ : ByteArray)) := (blk_cell BK114.out 1).trans rfl; have hcz28_2 : w26.cell? ⟨gb114, 2, none⟩ = some (.int .i64 0) := (blk_cell BK114.out 2).trans rfl; have hcz28_3 : w26.cell? ⟨gb114, 3, none⟩ = some (.slice none 0 0) := (blk_cell BK114.out 3).trans rfl; have hcz28_4 : w26.cell? ⟨gb114, 4, none⟩ = some (.slice none 0 0) := (blk_cell BK114.out 4).trans rfl; have hfz28_0 := blk_frozen BK114.out 0; have hfz28_1 := blk_frozen BK114.out 1; have hfz28_2 := blk_frozen BK114.out 2; have hfz28_3 := blk_frozen BK114.out 3; have hfz28_4 := blk_frozen BK114.out 4; obtain ⟨Ao29, co29, eo29⟩ := Kd.R_slice HO134.out; subst eo29; obtain ⟨Ao30, co30, eo30⟩ := Kd.R_slice HO137.out; subst eo30))
          refine bodyPost_ret (results_cell_row rfl _ _ gb114 31 #[.int .i64 t129, .string t130, .int .i64 t131, .slice Ao29 t132.length co29, .slice Ao30 t135.length co30] (0, 0) _ rfl (by (with_reducible repeat (first | refine blk_drewN ?_ _ | refine blk_drew ?_ | refine blk_alloc ?_ _)); refine blk_put (cs := #[.int .i64 t129, .string t130, .int .i64 t131, .slice Ao29 t132.length co29, .slice none 0 0]) ?_ 4 _ rfl; (with_reducible repeat (first | refine blk_drewN ?_ _ | refine blk_drew ?_ | refine blk_alloc ?_ _)); refine blk_put (cs := #[.int .i64 t129, .string t130, .int .i64 t131, .slice none 0 0, .slice none 0 0]) ?_ 3 _ rfl; (with_reducible repeat (first | refine blk_drewN ?_ _ | refine blk_drew ?_ | refine blk_alloc ?_ _)); refine blk_put (cs := #[.int .i64 t129, .string t130, .int .i64 0, .slice none 0 0, .slice none 0 0]) ?_ 2 _ rfl; (with_reducible repeat (first | refine blk_drewN ?_ _ | refine blk_drew ?_ | refine blk_alloc ?_ _)); refine blk_put (cs := #[.int .i64 t129, .string (⟨#[]⟩ : ByteArray), .int .i64 0, .slice none 0 0, .slice none 0 0]) ?_ 1 _ rfl; (with_reducible repeat (first | refine blk_drewN ?_ _ | refine blk_drew ?_ | refine blk_alloc ?_ _)); refine blk_put (cs := #[.int .i64 0, .string (⟨#[]⟩ : ByteArray), .int .i64 0, .slice none 0 0, .slice none 0 0]) ?_ 0 _ rfl; (with_reducible repeat (first | refine blk_drewN ?_ _ | refine blk_drew ?_ | refine blk_alloc ?_ _)); exact BK114.out) Try.underlying31 rfl (by kernel_rfl)) rfl ?_
          exact ⟨_, _, by first | rfl | (simp [errW_none, errW_some] <;> rfl) | (simp [*, errW_none, errW_some] <;> rfl), by (with_reducible repeat (first | apply Kd.R_alloc | apply Kd.R_drewN | apply Kd.R_drew)); exact Kd.R_mono (Kd.R_far (p := ⟨gb114, 4, none⟩) (Kd.R_far (p := ⟨gb114, 3, none⟩) (Kd.R_far (p := ⟨gb114, 2, none⟩) (Kd.R_far (p := ⟨gb114, 1, none⟩) (Kd.R_far (p := ⟨gb114, 0, none⟩) (Kd.R_types HO134.out BK114.out (by decide)) (fun _ hk => hk.2) (.int .i64 t129)) (fun _ hk => hk.2) (.string t130)) (fun _ hk => hk.2) (.int .i64 t131)) (fun _ hk => hk.2) (.slice Ao29 t132.length co29)) (fun _ hk => hk.2) (.slice Ao30 t135.length co30)) (fun _ hk => trivial), by (with_reducible repeat (first | apply Kd.R_alloc | apply Kd.R_drewN | apply Kd.R_drew)); exact Kd.R_mono (Kd.R_far (p := ⟨gb114, 4, none⟩) (Kd.R_far (p := ⟨gb114, 3, none⟩) (Kd.R_far (p := ⟨gb114, 2, none⟩) (Kd.R_far (p := ⟨gb114, 1, none⟩) (Kd.R_far (p := ⟨gb114, 0, none⟩) (Kd.R_mono HO137.out (fun k_ hk => (⟨hk, hk.2⟩ : _ ∧ k_ ≠ gb114))) (fun _ hk => hk.2) (.int .i64 t129)) (fun _ hk => hk.2) (.string t130)) (fun _ hk => hk.2) (.int .i64 t131)) (fun _ hk => hk.2) (.slice Ao29 t132.length co29)) (fun _ hk => hk.2) (.slice Ao30 t135.length co30)) (fun _ hk => hk.1.1), by repeat (first | (with_reducible first | exact HI0.out | apply IsS108.alloc | apply IsS108.drewN | apply IsS108.drew | apply IsS108.set_1 | refine IsS108.far ?_ NB0_114.out _) | exact HI0.out), by repeat (first | (with_reducible first | exact HB.out | apply below_alloc | apply pw_below_drewN | apply below_drew1 | refine below_set ?_ (IsS108.ge HI0.out) | refine below_set ?_ GE114.out) | exact HB.out), by repeat (first | (with_reducible first | exact HK.out | apply KeepBut.set_ | apply keep_drewN | apply keep_drew | apply keep_alloc | refine keep_far ?_ GW114.out _) | exact HK.out)⟩
      · replace c8 := Bool.eq_false_iff.mpr c8
        subst c8
        have H1 : ((spec_l15Rd_pick.f kj2 s0_0 x1001_2 4).bind fun bt139 => (spec_l1Some.l0 kj2 a1 bt139.1 s0_0 bt139.2 3 (⟨#[]⟩ : ByteArray) 0 ([] : List (S31)))) = some (r1, r2, r3, r4, r5, r6) := by rw [if_neg (show ¬ (false = true) by decide)] at H; exact H
        clear H
        have H := H1
        clear H1
        replace H := Option.bind_eq_some_iff.mp H
        obtain ⟨⟨t139, t140⟩, A310, H⟩ := H
        replace H : (spec_l1Some.l0 kj2 a1 t139 s0_0 t140 3 (⟨#[]⟩ : ByteArray) 0 ([] : List (S31))) = some (r1, r2, r3, r4, r5, r6) := H
        have A31 := Aside0.mk A310
        clear A310
        have H' := Aside0.mk H
        clear H
        go_wp2_with (first | ((with_reducible refine gate_dst (N := 5) rfl ?_); refine box_event ?hg (N := 5) ?hd (cs := #[.int .i64 0, .string (⟨#[]⟩ : ByteArray), .int .i64 0, .slice none 0 0, .slice none 0 0]) (t := 31) ?hr ?_; (case hd => rfl); (case hg => rfl); (case hr => first | (go_simp; done) | (go_simp; rfl)); intro gb138 hg w32 hbox hb; have n0_ := Aside0.mk (blk_below (g := gb114) (o := .cells #[.int .i64 0, .string (⟨#[]⟩ : ByteArray), .int .i64 0, .slice none 0 0, .slice none 0 0] 31 (0, 0)) (by (with_reducible repeat (first | refine blk_drewN ?_ _ | refine blk_drew ?_ | refine blk_alloc ?_ _)); exact BK114.out) hb); have n1_ := Aside0.mk (IsS108.below (by repeat (first | (with_reducible first | exact HI0.out | apply IsS108.alloc | apply IsS108.drewN | apply IsS108.drew | apply IsS108.set_1 | refine IsS108.far ?_ NB0_114.out _) | exact HI0.out)) hb); have n2_ := Aside0.mk (KeepBut.trans (by repeat (first | (with_reducible first | exact HK.out | apply KeepBut.set_ | apply keep_drewN | apply keep_drew | apply keep_alloc | refine keep_far ?_ GW114.out _) | exact HK.out)) (KeepBut.of_below hb g none) (.inl rfl)); have n3_ := Aside0.mk (below_step (by repeat (first | (with_reducible first | exact HB.out | apply below_alloc | apply pw_below_drewN | apply below_drew1 | refine below_set ?_ (IsS108.ge HI0.out) | refine below_set ?_ GE114.out) | exact HB.out)) hb); have n4_ := Aside0.mk (hbox); have n5_ := Aside0.mk ((by rw [hg]; exact (keep_size (w := w) (g := g) (row := none) (by repeat (first | (with_reducible first | exact HK.out | apply KeepBut.set_ | apply keep_drewN | apply keep_drew | apply keep_alloc | refine keep_far ?_ GW114.out _) | exact HK.out))) : w.heap.size ≤ gb138)); have n6_ := Aside0.mk ((Nat.le_trans HW0.out (by rw [hg]; exact (keep_size (w := w) (g := g) (row := none) (by repeat (first | (with_reducible first | exact HK.out | apply KeepBut.set_ | apply keep_drewN | apply keep_drew | apply keep_alloc | refine keep_far ?_ GW114.out _) | exact HK.out))) : w.heap.size ≤ gb138) : w0.heap.size ≤ gb138)); have n7_ := Aside0.mk ((by rw [hg]; exact Nat.ne_of_lt (blk_lt (g := gb114) (o := .cells #[.int .i64 0, .string (⟨#[]⟩ : ByteArray), .int .i64 0, .slice none 0 0, .slice none 0 0] 31 (0, 0)) (by (with_reducible repeat (first | refine blk_drewN ?_ _ | refine blk_drew ?_ | refine blk_alloc ?_ _)); exact BK114.out)) : gb114 ≠ gb138)); have n8_ := Aside0.mk ((by rw [hg]; exact Nat.ne_of_gt (blk_lt (g := gb114) (o := .cells #[.int .i64 0, .string (⟨#[]⟩ : ByteArray), .int .i64 0, .slice none 0 0, .slice none 0 0] 31 (0, 0)) (by (with_reducible repeat (first | refine blk_drewN ?_ _ | refine blk_drew ?_ | refine blk_alloc ?_ _)); exact BK114.out)) : gb138 ≠ gb114)); have n9_ := Aside0.mk ((by rw [hg]; exact Nat.ne_of_lt (IsS108.lt (show IsS108 w0 _ g s0_0 x1001_2 from by repeat (first | (with_reducible first | exact HI0.out | apply IsS108.alloc | apply IsS108.drewN | apply IsS108.drew | apply IsS108.set_1 | refine IsS108.far ?_ NB0_114.out _) | exact HI0.out))) : g ≠ gb138)); have n10_ := Aside0.mk ((by rw [hg]; exact Nat.ne_of_gt (IsS108.lt (show IsS108 w0 _ g s0_0 x1001_2 from by repeat (first | (with_reducible first | exact HI0.out | apply IsS108.alloc | apply IsS108.drewN | apply IsS108.drew | apply IsS108.set_1 | refine IsS108.far ?_ NB0_114.out _) | exact HI0.out))) : gb138 ≠ g)); clear BK114; clear HI0; clear HK; clear HB; have BK114 := n0_; have HI0 := n1_; have HK := n2_; have HB := n3_; have BK138 := n4_; have GW138 := n5_; have GE138 := n6_; have NB114_138 := n7_; have NB138_114 := n8_; have NB0_138 := n9_; have NB138_0 := n10_; clear n0_ n1_ n2_ n3_ n4_ n5_ n6_ n7_ n8_ n9_ n10_; clear hb hbox hg; have hnb33 := NB138_114.out; have hnc33 := NB114_138.out; have hnb34 := NB138_0.out; have hnc34 := NB0_138.out; have hcz35_0 : w32.cell? ⟨gb138, 0, none⟩ = some (.int .i64 0) := (blk_cell BK138.out 0).trans rfl; have hcz35_1 : w32.cell? ⟨gb138, 1, none⟩ = some (.string (⟨#[]⟩ : ByteArray)) := (blk_cell BK138.out 1).trans rfl; have hcz35_2 : w32.cell? ⟨gb138, 2, none⟩ = some (.int .i64 0) := (blk_cell BK138.out 2).trans rfl; have hcz35_3 : w32.cell? ⟨gb138, 3, none⟩ = some (.slice none 0 0) := (blk_cell BK138.out 3).trans rfl; have hcz35_4 : w32.cell? ⟨gb138, 4, none⟩ = some (.slice none 0 0) := (blk_cell BK138.out 4).trans rfl; have hfz35_0 := blk_frozen BK138.out 0; have hfz35_1 := blk_frozen BK138.out 1; have hfz35_2 := blk_frozen BK138.out 2; have hfz35_3 := blk_frozen BK138.out 3; have hfz35_4 := blk_frozen BK138.out 4) | ((with_reducible refine gate_callee (f := 97) rfl ?_); refine goesL_ (some 27) rfl rfl Try.func97 (by kernel_rfl) rfl #[.pointer (some ⟨g, 0, none⟩), .int .i64 4] rfl (by (try simp only [List.map_toArray, List.map_cons, List.map_nil]); first | done | rfl | (simp only [List.length_drop, List.length_take]; rfl)) ?_; (with_reducible refine (spec_l15Rd_pick.calls kj2 g s0_0 x1001_2 4 t139 t140 w0 _ ?side1 ?side2 A31.out).mono ?_); (case side1 => repeat (first | (with_reducible first | exact HI0.out | apply IsS108.alloc | apply IsS108.drewN | apply IsS108.drew | apply IsS108.set_1 | refine IsS108.far ?_ NB0_114.out _ | refine IsS108.far ?_ NB0_138.out _) | exact HI0.out)); (case side2 => repeat (first | (with_reducible first | exact HB.out | apply below_alloc | apply pw_below_drewN | apply below_drew1 | refine below_set ?_ (IsS108.ge HI0.out) | refine below_set ?_ GE114.out | refine below_set ?_ GE138.out) | exact HB.out)); rintro e w36 ⟨rfl, hi, hb, hk⟩; refine ⟨_, rfl, ?_⟩; have n0_ := Aside0.mk (KeepBut.blk hk (g' := gb114) (o := .cells #[.int .i64 0, .string (⟨#[]⟩ : ByteArray), .int .i64 0, .slice none 0 0, .slice none 0 0] 31 (0, 0)) (by (with_reducible repeat (first | refine blk_drewN ?_ _ | refine blk_drew ?_ | refine blk_alloc ?_ _)); refine blk_far ?_ NB114_138.out _; (with_reducible repeat (first | refine blk_drewN ?_ _ | refine blk_drew ?_ | refine blk_alloc ?_ _)); refine blk_far ?_ NB114_138.out _; (with_reducible repeat (first | refine blk_drewN ?_ _ | refine blk_drew ?_ | refine blk_alloc ?_ _)); refine blk_far ?_ NB114_138.out _; (with_reducible repeat (first | refine blk_drewN ?_ _ | refine blk_drew ?_ | refine blk_alloc ?_ _)); refine blk_far ?_ NB114_138.out _; (with_reducible repeat (first | refine blk_drewN ?_ _ | refine blk_drew ?_ | refine blk_alloc ?_ _)); refine blk_far ?_ NB114_138.out _; (with_reducible repeat (first | refine blk_drewN ?_ _ | refine blk_drew ?_ | refine blk_alloc ?_ _)); exact BK114.out) NB114_0.out (by simp)); have n1_ := Aside0.mk (KeepBut.blk hk (g' := gb138) (o := .cells #[.int .i64 3, .string (⟨#[]⟩ : ByteArray), .int .i64 0, .slice none 0 0, .slice none 0 0] 31 (0, 0)) (by (with_reducible repeat (first | refine blk_drewN ?_ _ | refine blk_drew ?_ | refine blk_alloc ?_ _)); refine blk_put (cs := #[.int .i64 3, .string (⟨#[]⟩ : ByteArray), .int .i64 0, .slice none 0 0, .slice none 0 0]) ?_ 4 _ rfl; (with_reducible repeat (first | refine blk_drewN ?_ _ | refine blk_drew ?_ | refine blk_alloc ?_ _)); refine blk_put (cs := #[.int .i64 3, .string (⟨#[]⟩ : ByteArray), .int .i64 0, .slice none 0 0, .slice none 0 0]) ?_ 3 _ rfl; (with_reducible repeat (first | refine blk_drewN ?_ _ | refine blk_drew ?_ | refine blk_alloc ?_ _)); refine blk_put (cs := #[.int .i64 3, .string (⟨#[]⟩ : ByteArray), .int .i64 0, .slice none 0 0, .slice none 0 0]) ?_ 2 _ rfl; (with_reducible repeat (first | refine blk_drewN ?_ _ | refine blk_drew ?_ | refine blk_alloc ?_ _)); refine blk_put (cs := #[.int .i64 3, .string (⟨#[]⟩ : ByteArray), .int .i64 0, .slice none 0 0, .slice none 0 0]) ?_ 1 _ rfl; (with_reducible repeat (first | refine blk_drewN ?_ _ | refine blk_drew ?_ | refine blk_alloc ?_ _)); refine blk_put (cs := #[.int .i64 0, .string (⟨#[]⟩ : ByteArray), .int .i64 0, .slice none 0 0, .slice none 0 0]) ?_ 0 _ rfl; (with_reducible repeat (first | refine blk_drewN ?_ _ | refine blk_drew ?_ | refine blk_alloc ?_ _)); exact BK138.out) NB138_0.out (by simp)); have n2_ := Aside0.mk (KeepBut.trans (by repeat (first | (with_reducible first | exact HK.out | apply KeepBut.set_ | apply keep_drewN | apply keep_drew | apply keep_alloc | refine keep_far ?_ GW114.out _ | refine keep_far ?_ GW138.out _) | exact HK.out)) hk (.inl rfl)); have n3_ := Aside0.mk (hb); have n4_ := Aside0.mk (hi); clear BK114; clear BK138; clear HK; clear HB; clear HI0; have BK114 := n0_; have BK138 := n1_; have HK := n2_; have HB := n3_; have HI0 := n4_; clear n0_ n1_ n2_ n3_ n4_; (try clear hb); (try clear hb2); (try clear hk); (try clear hi)))
        go_loopg [6] kj2 (fun kq v6 w' => ∃ (x6_2 : Int) (x1001_2 : Int) (x139004_2 : List (S31)) (u139004 : Value), v6 = .int .i64 x6_2 ∧ Aside0 (spec_l1Some.l0 kq a1 x6_2 s0_0 x1001_2 3 (⟨#[]⟩ : ByteArray) 0 x139004_2 = some (r1, r2, r3, r4, r5, r6)) ∧ Aside0 (kq ≤ kj2) ∧ Aside0 (Kd.R k31 31 w' w.heap.size (fun k_ => k_ ≠ gb114 ∧ k_ ≠ gb138) u139004 x139004_2) ∧ Aside0 (w'.heap[gb114]? = some (.cells #[.int .i64 0, .string (⟨#[]⟩ : ByteArray), .int .i64 0, (.slice none 0 0), (.slice none 0 0)] 31 (0, 0))) ∧ Aside0 (w'.heap[gb138]? = some (.cells #[.int .i64 3, .string (⟨#[]⟩ : ByteArray), .int .i64 0, (.slice none 0 0), u139004] 31 (0, 0))) ∧ Aside0 (IsS108 w0 w' g s0_0 x1001_2) ∧ Aside0 (KeepBut w w' g none) ∧ Aside0 (Below w0.heap.size w0 w'))
        case atStart => exact ⟨(t139), (t140), (([] : List (S31))), (.slice none 0 0), (by first | rfl | (simp; done) | (simp [*]; done)), H', ⟨Nat.le_refl _⟩, ⟨by first | exact Kd.R_nil _ _ _ _ _ | exact Kd.N_nil _ _ _ _ _ | exact Kd.V_nil _ _ _ _ _ | exact Kd.Q_nil _ _ _ _ _ | exact Kd.S_nil _ _ _ _ _⟩, ⟨by (with_reducible repeat (first | refine blk_drewN ?_ _ | refine blk_drew ?_ | refine blk_alloc ?_ _)); exact BK114.out⟩, ⟨by (with_reducible repeat (first | refine blk_drewN ?_ _ | refine blk_drew ?_ | refine blk_alloc ?_ _)); exact BK138.out⟩, ⟨by repeat (first | (with_reducible first | exact HI0.out | apply IsS108.alloc | apply IsS108.drewN | apply IsS108.drew | apply IsS108.set_1 | refine IsS108.far ?_ NB0_114.out _ | refine IsS108.far ?_ NB0_138.out _) | exact HI0.out)⟩, ⟨by repeat (first | (with_reducible first | exact HK.out | apply KeepBut.set_ | apply keep_drewN | apply keep_drew | apply keep_alloc | refine keep_far ?_ GW114.out _ | refine keep_far ?_ GW138.out _) | exact HK.out)⟩, ⟨by repeat (first | (with_reducible first | exact HB.out | apply below_alloc | apply pw_below_drewN | apply below_drew1 | refine below_set ?_ (IsS108.ge HI0.out) | refine below_set ?_ GE114.out | refine below_set ?_ GE138.out) | exact HB.out)⟩⟩
        case round =>
          clear H'
          try clear c1
          try clear c2
          try clear p2
          try clear c3
          try clear c5
          try clear c5b0
          try clear c5b1
          try clear c8
          try clear c9
          try clear c10
          try clear c10b0
          try clear c10b1
          try clear c11
          try clear c12
          try clear c13
          try clear c15
          try clear c17
          try clear c27
          try clear c33
          try clear c34
          try clear hcz18_0
          try clear hcz18_1
          try clear hcz18_2
          try clear hcz18_3
          try clear hcz18_4
          try clear hcz28_0
          try clear hcz28_1
          try clear hcz28_2
          try clear hcz28_3
          try clear hcz28_4
          try clear hcz35_0
          try clear hcz35_1
          try clear hcz35_2
          try clear hcz35_3
          try clear hcz35_4
          try clear hfz18_0
          try clear hfz18_1
          try clear hfz18_2
          try clear hfz18_3
          try clear hfz18_4
          try clear hfz28_0
          try clear hfz28_1
          try clear hfz28_2
          try clear hfz28_3
          try clear hfz28_4
          try clear hfz35_0
          try clear hfz35_1
          try clear hfz35_2
          try clear hfz35_3
          try clear hfz35_4
          try clear p2
          obtain ⟨x6_2, x1001_2, x139004_2, u139004, rfl, HA, HK2, HO_139004, BK114, BK138, HI0, HK, HB⟩ := hrel
          cases gk with
          | zero => exact absurd HA.out (by simp [spec_l1Some.l0])
          | succ k2 =>
            have H := HA.out
            clear HA
            simp only [spec_l1Some.l0] at H
            by_cases c37 : x6_2 > 0
            · rw [if_pos c37] at H
              have c37b0 : decide (0 < x6_2) = true := decide_eq_true c37
              clear c37
              replace H := Option.bind_eq_some_iff.mp H
              obtain ⟨⟨t141, t142, t143, t144, t147, t150⟩, A380, H⟩ := H
              replace H : (if x139004_2.length < 1759218604441 then (spec_l1Some.l0 k2 a1 (wrap64 (x6_2 - 1)) s0_0 t150 3 (⟨#[]⟩ : ByteArray) 0 (x139004_2 ++ [(⟨t141, t142, t143, t144, t147⟩ : S31)])) else (none)) = some (r1, r2, r3, r4, r5, r6) := H
              have A38 := Aside0.mk A380
              clear A380
              by_cases c39 : x139004_2.length < 1759218604441
              · rw [if_pos c39] at H
                have LMc39 := Aside0.mk c39
                clear c39
                obtain ⟨y151, hy151⟩ : ∃ y_ : List (S31), y_ = (x139004_2 ++ [(⟨t141, t142, t143, t144, t147⟩ : S31)]) := ⟨_, rfl⟩
                replace H : (spec_l1Some.l0 k2 a1 (wrap64 (x6_2 - 1)) s0_0 t150 3 (⟨#[]⟩ : ByteArray) 0 y151) = some (r1, r2, r3, r4, r5, r6) := by first | (rw [hy151]; with_reducible exact H) | (have H2_ := (Option.bind_some _ _).symm.trans H; rw [hy151]; with_reducible exact H2_) | (have H2_ := (Option.bind_some _ _).symm.trans H; with_reducible exact H2_) | with_reducible exact H | (rw [hy151]; exact H) | exact H
                have Ny151 := Aside0.mk hy151
                clear hy151
                have H' := Aside0.mk H
                clear H
                try go_wp2
                have n0_ := Aside0.mk (Kd.R_drew HO_139004.out)
                have n1_ := Aside0.mk (blk_drew BK114.out)
                have n2_ := Aside0.mk (blk_drew BK138.out)
                have n3_ := Aside0.mk (IsS108.drew HI0.out)
                have n4_ := Aside0.mk (keep_drew HK.out)
                have n5_ := Aside0.mk (below_drew1 HB.out)
                clear HO_139004
                clear BK114
                clear BK138
                clear HI0
                clear HK
                clear HB
                have HO_139004 := n0_
                have BK114 := n1_
                have BK138 := n2_
                have HI0 := n3_
                have HK := n4_
                have HB := n5_
                clear n0_ n1_ n2_ n3_ n4_ n5_
                refine start_ (n := 10) (S := fun w' => w'.cell? ⟨gb138, 0, none⟩ = some (.int .i64 3) ∧ w'.cell? ⟨gb138, 1, none⟩ = some (.string (⟨#[]⟩ : ByteArray)) ∧ w'.cell? ⟨gb138, 2, none⟩ = some (.int .i64 0) ∧ w'.cell? ⟨gb138, 3, none⟩ = some (.slice none 0 0) ∧ w'.cell? ⟨gb138, 4, none⟩ = some (u139004)) (ds := [9]) #[false, false, false, false, false, false, false, false, false, false] (by kernel_rfl) rfl rfl ⟨(blk_cell BK138.out 0).trans rfl, (blk_cell BK138.out 1).trans rfl, (blk_cell BK138.out 2).trans rfl, (blk_cell BK138.out 3).trans rfl, (blk_cell BK138.out 4).trans rfl⟩ (fun hHeld => ?_); refine with_tabW spec_l1Some.tab9 spec_l1Some.bits9 (fun HT_ HW_ => ?_)
                generalize wr.drew = w40 at HO_139004 BK114 BK138 HI0 HK HB hHeld ⊢
                refine pure_ (i := 0) (N := some 32) (v := ?_) (a' := ?_) #[true, false, false, false, false, false, false, false, false, false] rfl rfl (any_of HT_.out (by kernel_rfl)) (fun _ _ _ h => h) (Or.inl ⟨by rfl, ?_⟩) ?_ ?_
                rotate_left
                · intro w'
                  go_simp
                  with_reducible rfl
                rotate_left
                · simp only [Act.put, List.setIfInBounds_toArray, List.set_cons_zero, List.set_cons_succ, i64_w, i32_w]
                  rfl
                refine pure_ (i := 2) (N := some 34) (v := ?_) (a' := ?_) #[true, false, true, false, false, false, false, false, false, false] rfl rfl (any_of HT_.out (by kernel_rfl)) (fun _ _ _ h => h) (Or.inl ⟨by rfl, ?_⟩) ?_ ?_
                rotate_left
                · intro w'
                  go_simp
                  with_reducible rfl
                rotate_left
                · simp only [Act.put, List.setIfInBounds_toArray, List.set_cons_zero, List.set_cons_succ, i64_w, i32_w]
                  rfl
                refine pure_ (i := 3) (N := some 35) (v := ?_) (a' := ?_) #[true, false, true, true, false, false, false, false, false, false] rfl rfl (any_of HT_.out (by kernel_rfl)) (fun _ _ _ h => h) (Or.inl ⟨by rfl, ?_⟩) ?_ ?_
                rotate_left
                · intro w'
                  go_simp
                  with_reducible rfl
                rotate_left
                · simp only [Act.put, List.setIfInBounds_toArray, List.set_cons_zero, List.set_cons_succ, i64_w, i32_w]
                  rfl
                refine pure_ (i := 4) (N := some 36) (v := ?_) (a' := ?_) #[true, false, true, true, true, false, false, false, false, false] rfl rfl (any_of HT_.out (by kernel_rfl)) (fun _ _ _ h => h) (Or.inl ⟨by rfl, ?_⟩) ?_ ?_
                rotate_left
                · intro w'
                  go_simp
                  with_reducible rfl
                rotate_left
                · simp only [Act.put, List.setIfInBounds_toArray, List.set_cons_zero, List.set_cons_succ, i64_w, i32_w]
                  rfl
                refine take_ (i := 1) (N := some 33) (v := ?_) (a' := ?_) #[true, true, true, true, true, false, false, false, false, false] rfl rfl (take_ofW HT_.out HW_.out (by kernel_rfl)) (fun _ _ _ h => h) (Or.inl ⟨by rfl, ?_⟩) hHeld ?_ ?_
                rotate_left
                · rintro w' ⟨s0, s1, s2, s3, s4⟩
                  go_simp
                  with_reducible rfl
                rotate_left
                · simp only [Act.put, List.setIfInBounds_toArray, List.set_cons_zero, List.set_cons_succ, i64_w, i32_w]
                  rfl
                refine one_ (i := 5) (N := some 37) #[true, true, true, true, true, true, false, false, false, false] rfl rfl (one_of HT_.out (by kernel_rfl)) (by decide) (fun K hK => ?_)
                refine goes_ Try.func119 (by kernel_rfl) rfl #[.pointer (some ⟨g, 0, none⟩), .int .i64 (wrap64 (a1 - 1))] (by rfl) rfl rfl (by (try simp only [List.map_toArray, List.map_cons, List.map_nil]); first | done | rfl | (simp only [List.length_drop, List.length_take]; rfl)) ?_
                with_reducible refine (ih k2 (by have := HJ2.out; have := HK2.out; omega) g s0_0 x1001_2 (wrap64 (a1 - 1)) t141 t142 t143 t144 t147 t150 w0 _ ?side1 ?side2 A38.out).mono ?_
                (case side1 => repeat (first | (with_reducible first | exact HI0.out | apply IsS108.alloc | apply IsS108.drewN | apply IsS108.drew | apply IsS108.set_1 | refine IsS108.far ?_ NB0_114.out _ | refine IsS108.far ?_ NB0_138.out _) | exact HI0.out))
                (case side2 => repeat (first | (with_reducible first | exact HB.out | apply below_alloc | apply pw_below_drewN | apply below_drew1 | refine below_set ?_ (IsS108.ge HI0.out) | refine below_set ?_ GE114.out | refine below_set ?_ GE138.out) | exact HB.out))
                rintro e w41 ⟨v145, v148, rfl, ho0, ho1, hi, hb, hk⟩
                refine ⟨_, rfl, ?_⟩
                have n0_ := Aside0.mk (Kd.R_mono (Kd.R_told (Kd.R_told (Kd.R_oldK (IsS108.apart (show IsS108 w0 _ g s0_0 x1001_2 from by repeat (first | (with_reducible first | exact HI0.out | apply IsS108.alloc | apply IsS108.drewN | apply IsS108.drew | apply IsS108.set_1 | refine IsS108.far ?_ NB0_114.out _ | refine IsS108.far ?_ NB0_138.out _) | exact HI0.out)) (by (with_reducible repeat (first | apply Kd.R_alloc | apply Kd.R_drewN | apply Kd.R_drew)); exact HO_139004.out) (by decide)) hk) (Kd.R_base ho0)) (Kd.R_base ho1)) (fun _ h_ => h_.1))
                have n1_ := Aside0.mk (KeepBut.blk hk (g' := gb114) (o := .cells #[.int .i64 0, .string (⟨#[]⟩ : ByteArray), .int .i64 0, .slice none 0 0, .slice none 0 0] 31 (0, 0)) (by (with_reducible repeat (first | refine blk_drewN ?_ _ | refine blk_drew ?_ | refine blk_alloc ?_ _)); exact BK114.out) NB114_0.out (by simp))
                have n2_ := Aside0.mk (KeepBut.blk hk (g' := gb138) (o := .cells #[.int .i64 3, .string (⟨#[]⟩ : ByteArray), .int .i64 0, .slice none 0 0, u139004] 31 (0, 0)) (by (with_reducible repeat (first | refine blk_drewN ?_ _ | refine blk_drew ?_ | refine blk_alloc ?_ _)); exact BK138.out) NB138_0.out (by simp))
                have n3_ := Aside0.mk (Kd.R_lower ho0 (keep_size (w := w) (g := g) (row := none) (by repeat (first | (with_reducible first | exact HK.out | apply KeepBut.set_ | apply keep_drewN | apply keep_drew | apply keep_alloc | refine keep_far ?_ GW114.out _ | refine keep_far ?_ GW138.out _) | exact HK.out))))
                have n4_ := Aside0.mk (Kd.R_lower (Kd.R_newB (Kd.R_newB (Kd.R_new' ho1 (Kd.R_lt (by (with_reducible repeat (first | apply Kd.R_alloc | apply Kd.R_drewN | apply Kd.R_drew)); exact HO_139004.out))) (g := gb114) (o := .cells #[.int .i64 0, .string (⟨#[]⟩ : ByteArray), .int .i64 0, .slice none 0 0, .slice none 0 0] 31 (0, 0)) (by (with_reducible repeat (first | refine blk_drewN ?_ _ | refine blk_drew ?_ | refine blk_alloc ?_ _)); exact BK114.out)) (g := gb138) (o := .cells #[.int .i64 3, .string (⟨#[]⟩ : ByteArray), .int .i64 0, .slice none 0 0, u139004] 31 (0, 0)) (by (with_reducible repeat (first | refine blk_drewN ?_ _ | refine blk_drew ?_ | refine blk_alloc ?_ _)); exact BK138.out)) (keep_size (w := w) (g := g) (row := none) (by repeat (first | (with_reducible first | exact HK.out | apply KeepBut.set_ | apply keep_drewN | apply keep_drew | apply keep_alloc | refine keep_far ?_ GW114.out _ | refine keep_far ?_ GW138.out _) | exact HK.out))))
                have n5_ := Aside0.mk (KeepBut.trans (by repeat (first | (with_reducible first | exact HK.out | apply KeepBut.set_ | apply keep_drewN | apply keep_drew | apply keep_alloc | refine keep_far ?_ GW114.out _ | refine keep_far ?_ GW138.out _) | exact HK.out)) hk (.inl rfl))
                have n6_ := Aside0.mk (hb)
                have n7_ := Aside0.mk (hi)
                clear HO_139004
                clear BK114
                clear BK138
                clear HK
                clear HB
                clear HI0
                have HO_139004 := n0_
                have BK114 := n1_
                have BK138 := n2_
                have HO146 := n3_
                have HO149 := n4_
                have HK := n5_
                have HB := n6_
                have HI0 := n7_
                clear n0_ n1_ n2_ n3_ n4_ n5_ n6_ n7_
                (try clear hb)
                (try clear hb2)
                (try clear hk)
                (try clear hi)
                (try clear ho0)
                (try clear ho1)
                obtain ⟨Ao43, co43, eo43⟩ := Kd.R_slice HO146.out
                (first | subst eo43 | (injection eo43 with f1_ f2_ f3_; have f4_ := f1_.symm; have f5_ := f3_.symm; clear f1_ f2_ f3_; subst f4_; subst f5_))
                obtain ⟨Ao44, co44, eo44⟩ := Kd.R_slice HO149.out
                (first | subst eo44 | (injection eo44 with f1_ f2_ f3_; have f4_ := f1_.symm; have f5_ := f3_.symm; clear f1_ f2_ f3_; subst f4_; subst f5_))
                refine hK.out _ _ ⟨(blk_cell BK138.out 0).trans rfl, (blk_cell BK138.out 1).trans rfl, (blk_cell BK138.out 2).trans rfl, (blk_cell BK138.out 3).trans rfl, (blk_cell BK138.out 4).trans rfl⟩ (fun hHeld => ?_)
                clear hK K
                refine norm_ (a' := ?_) ?_ ?_
                rotate_left
                · show Act.put _ (some 37) _ = _
                  simp only [Act.put, List.setIfInBounds_toArray, List.set_cons_zero, List.set_cons_succ, i64_w, i32_w]
                  rfl
                refine one_ (i := 6) (N := some 38) #[true, true, true, true, true, true, true, false, false, false] rfl rfl (one_of HT_.out (by kernel_rfl)) (by decide) (fun K hK => ?_)
                refine value_ (w1 := ?_) (v := ?_) (by rfl) rfl ?_ ?_
                rotate_left 2
                · go_simp
                  constructor
                  · rfl
                  · rfl
                refine hK.out _ _ ⟨(blk_cell (blk_alloc BK138.out _) 0).trans rfl, (blk_cell (blk_alloc BK138.out _) 1).trans rfl, (blk_cell (blk_alloc BK138.out _) 2).trans rfl, (blk_cell (blk_alloc BK138.out _) 3).trans rfl, (blk_cell (blk_alloc BK138.out _) 4).trans rfl⟩ (fun hHeld => ?_)
                clear hK K
                refine norm_ (a' := ?_) ?_ ?_
                rotate_left
                · show Act.put _ (some 38) _ = _
                  simp only [Act.put, List.setIfInBounds_toArray, List.set_cons_zero, List.set_cons_succ, i64_w, i32_w]
                  rfl
                refine one_ (i := 7) (N := some 39) #[true, true, true, true, true, true, true, true, false, false] rfl rfl (one_of HT_.out (by kernel_rfl)) (by decide) (fun K hK => ?_)
                refine Kd.R_append_step k31 w.heap.size (by rfl) (.tmp 33) (.tmp 38) 29 31 (.agg #[(.int .i64 0), (.string ⟨#[]⟩), (.int .i64 0), (.slice none 0 0), (.slice none 0 0)]) 80 rfl Try.underlying29 info31 rfl (by decide) (by omega) u139004 x139004_2 (⟨t141, t142, t143, t144, t147⟩ : S31) [.int .i64 t141, .string t142, .int .i64 t143, .slice Ao43 t144.length co43, .slice Ao44 t147.length co44] (fun k_ => k_ ≠ gb114 ∧ k_ ≠ gb138) (fun k_ => ((fun k_ => k_ ≠ gb114 ∧ k_ ≠ gb138)) k_ ∧ some k_ ≠ (u139004 : Value).ownBlock) rfl rfl ?aP (fun _ hk => hk) ?aF ?aO (Below.refl _ _) ?aS ?aL ?_
                (case aP => exact k31_mkM _ _ _ (⟨t141, t142, t143, t144, t147⟩ : S31) (Kd.R_mono (Kd.R_types (Kd.R_types (Kd.R_apart' (HO146.out) (Kd.R_typed HO_139004.out) (by decide)) BK114.out (by decide)) BK138.out (by decide)) (fun k_ hk => ⟨⟨hk.1.2, hk.2⟩, hk.1.1.2⟩)) (Kd.R_mono (HO149.out) (fun k_ hk => ⟨⟨hk.1.2, hk.2⟩, hk.1.1.2⟩)))
                (case aF => exact (fun k_ hk => ⟨Kd.freshB (g := gb114) (o := .cells #[.int .i64 0, .string (⟨#[]⟩ : ByteArray), .int .i64 0, .slice none 0 0, .slice none 0 0] 31 (0, 0)) (by (with_reducible repeat (first | refine blk_drewN ?_ _ | refine blk_drew ?_ | refine blk_alloc ?_ _)); exact BK114.out) k_ hk, Kd.freshB (g := gb138) (o := .cells #[.int .i64 3, .string (⟨#[]⟩ : ByteArray), .int .i64 0, .slice none 0 0, u139004] 31 (0, 0)) (by (with_reducible repeat (first | refine blk_drewN ?_ _ | refine blk_drew ?_ | refine blk_alloc ?_ _)); exact BK138.out) k_ hk⟩))
                (case aO => exact (by (with_reducible repeat (first | apply Kd.R_alloc | apply Kd.R_drewN | apply Kd.R_drew)); exact Kd.R_mono HO_139004.out (fun _ hk => ⟨hk.1.1.1, hk.1.1.2⟩)))
                (case aS => exact (keep_size (w := w) (g := g) (row := none) (by repeat (first | (with_reducible first | exact HK.out | apply KeepBut.set_ | apply keep_drewN | apply keep_drew | apply keep_alloc | refine keep_far ?_ GW114.out _ | refine keep_far ?_ GW138.out _) | exact HK.out))))
                (case aL => have := LMc39.out; omega)
                intro v152 w42 ho hb hg hat
                rw [← Ny151.out] at ho
                have n0_ := Aside0.mk (blk_grown (g := gb114) (o := .cells #[.int .i64 0, .string (⟨#[]⟩ : ByteArray), .int .i64 0, .slice none 0 0, .slice none 0 0] 31 (0, 0)) (by (with_reducible repeat (first | refine blk_drewN ?_ _ | refine blk_drew ?_ | refine blk_alloc ?_ _)); exact BK114.out) hg (Kd.R_away HO_139004.out (fun _ hk => hk.1.1.1)))
                have n1_ := Aside0.mk (blk_grown (g := gb138) (o := .cells #[.int .i64 3, .string (⟨#[]⟩ : ByteArray), .int .i64 0, .slice none 0 0, u139004] 31 (0, 0)) (by (with_reducible repeat (first | refine blk_drewN ?_ _ | refine blk_drew ?_ | refine blk_alloc ?_ _)); exact BK138.out) hg (Kd.R_away HO_139004.out (fun _ hk => hk.1.1.2)))
                have n2_ := Aside0.mk (IsS108.grown (by repeat (first | (with_reducible first | exact HI0.out | apply IsS108.alloc | apply IsS108.drewN | apply IsS108.drew | apply IsS108.set_1 | refine IsS108.far ?_ NB0_114.out _ | refine IsS108.far ?_ NB0_138.out _) | exact HI0.out)) hg (IsS108.own_ne HI0.out HO_139004.out (by decide)))
                have n3_ := Aside0.mk (below_weaken (by repeat (first | (with_reducible first | exact HB.out | apply below_alloc | apply pw_below_drewN | apply below_drew1 | refine below_set ?_ (IsS108.ge HI0.out) | refine below_set ?_ GE114.out | refine below_set ?_ GE138.out) | exact HB.out)) HL.out hb)
                have n4_ := Aside0.mk (KeepBut.trans (by repeat (first | (with_reducible first | exact HK.out | apply KeepBut.set_ | apply keep_drewN | apply keep_drew | apply keep_alloc | refine keep_far ?_ GW114.out _ | refine keep_far ?_ GW138.out _) | exact HK.out)) (KeepBut.of_grown hg g) (Kd.R_base2 HO_139004.out))
                have n5_ := Aside0.mk (ho)
                clear BK114
                clear BK138
                clear HI0
                clear HB
                clear HK
                clear HO_139004
                clear HO146
                clear HO149
                have BK114 := n0_
                have BK138 := n1_
                have HI0 := n2_
                have HB := n3_
                have HK := n4_
                have HO153 := n5_
                clear n0_ n1_ n2_ n3_ n4_ n5_
                clear ho hb hg hat
                obtain ⟨Ao45, co45, eo45⟩ := Kd.R_slice HO153.out
                (first | subst eo45 | (injection eo45 with f1_ f2_ f3_; have f4_ := f1_.symm; have f5_ := f3_.symm; clear f1_ f2_ f3_; subst f4_; subst f5_))
                refine hK.out _ _ ⟨(blk_cell BK138.out 0).trans rfl, (blk_cell BK138.out 1).trans rfl, (blk_cell BK138.out 2).trans rfl, (blk_cell BK138.out 3).trans rfl, (blk_cell BK138.out 4).trans rfl⟩ (fun hHeld => ?_)
                clear hK K
                refine norm_ (a' := ?_) ?_ ?_
                rotate_left
                · show Act.put _ (some 39) _ = _
                  simp only [Act.put, List.setIfInBounds_toArray, List.set_cons_zero, List.set_cons_succ, i64_w, i32_w]
                  rfl
                refine pure_ (i := 8) (N := some 40) (v := ?_) (a' := ?_) #[true, true, true, true, true, true, true, true, true, false] rfl rfl (any_of HT_.out (by kernel_rfl)) (fun _ _ _ h => h) (Or.inl ⟨by rfl, ?_⟩) ?_ ?_
                rotate_left
                · intro w'
                  go_simp
                  with_reducible rfl
                rotate_left
                · simp only [Act.put, List.setIfInBounds_toArray, List.set_cons_zero, List.set_cons_succ, i64_w, i32_w]
                  rfl
                refine last_ (i := 9) (N := none) #[true, true, true, true, true, true, true, true, true, true] rfl rfl (one_of HT_.out (by kernel_rfl)) (by decide) (fun K hK => ?_)
                have hs46 : w42.cell? ⟨gb138, 4, none⟩ = some (u139004) := (blk_cell BK138.out 4).trans rfl
                have hfs46 := blk_frozen BK138.out 4
                have hns46_0 := NB114_138.out
                have hms46_0 := NB138_114.out
                refine skip_ (w1 := ?_) (by rfl) rfl ?_ ?_
                rotate_left
                · go_simp
                  rfl
                refine hK.out _ _ ?_
                clear hK K
                refine done_ (done_of HT_.out (by kernel_rfl)) ?_
                try go_wp2
                go_roundg k2
                case measure => have := HJ2.out; have := HK2.out; omega
                case rel => exact ⟨(wrap64 (x6_2 - 1)), (t150), (y151), (.slice Ao45 y151.length co45), (by first | rfl | (simp; done) | (simp [*]; done)), H', ⟨by have := HJ2.out; have := HK2.out; omega⟩, ⟨by (with_reducible repeat (first | apply Kd.R_alloc | apply Kd.R_drewN | apply Kd.R_drew)); exact Kd.R_mono (Kd.R_far (p := ⟨gb138, 4, none⟩) (Kd.R_mono HO153.out (fun k_ hk => (⟨hk, hk.2⟩ : _ ∧ k_ ≠ gb138))) (fun _ hk => hk.2) (.slice Ao45 y151.length co45)) (fun _ hk => ⟨hk.1.1, hk.1.2⟩)⟩, ⟨by (with_reducible repeat (first | refine blk_drewN ?_ _ | refine blk_drew ?_ | refine blk_alloc ?_ _)); refine blk_far ?_ NB114_138.out _; (with_reducible repeat (first | refine blk_drewN ?_ _ | refine blk_drew ?_ | refine blk_alloc ?_ _)); exact BK114.out⟩, ⟨by (with_reducible repeat (first | refine blk_drewN ?_ _ | refine blk_drew ?_ | refine blk_alloc ?_ _)); refine blk_put (cs := #[.int .i64 3, .string (⟨#[]⟩ : ByteArray), .int .i64 0, .slice none 0 0, u139004]) ?_ 4 _ rfl; (with_reducible repeat (first | refine blk_drewN ?_ _ | refine blk_drew ?_ | refine blk_alloc ?_ _)); exact BK138.out⟩, ⟨by repeat (first | (with_reducible first | exact HI0.out | apply IsS108.alloc | apply IsS108.drewN | apply IsS108.drew | apply IsS108.set_1 | refine IsS108.far ?_ NB0_114.out _ | refine IsS108.far ?_ NB0_138.out _) | exact HI0.out)⟩, ⟨by repeat (first | (with_reducible first | exact HK.out | apply KeepBut.set_ | apply keep_drewN | apply keep_drew | apply keep_alloc | refine keep_far ?_ GW114.out _ | refine keep_far ?_ GW138.out _) | exact HK.out)⟩, ⟨by repeat (first | (with_reducible first | exact HB.out | apply below_alloc | apply pw_below_drewN | apply below_drew1 | refine below_set ?_ (IsS108.ge HI0.out) | refine below_set ?_ GE114.out | refine below_set ?_ GE138.out) | exact HB.out)⟩⟩
              · rw [if_neg c39] at H
                exact absurd H (by simp)
            · rw [if_neg c37] at H
              have c37b0 : decide (0 < x6_2) = false := decide_eq_false c37
              clear c37
              simp only [Option.some.injEq, Prod.mk.injEq] at H
              obtain ⟨rfl, rfl, rfl, rfl, rfl, rfl⟩ := H
              have hnb47 := NB138_114.out
              have hnc47 := NB114_138.out
              have hnb48 := NB138_0.out
              have hnc48 := NB0_138.out
              have hcz49_0 : wr.cell? ⟨gb138, 0, none⟩ = some (.int .i64 3) := (blk_cell BK138.out 0).trans rfl
              have hcz49_1 : wr.cell? ⟨gb138, 1, none⟩ = some (.string (⟨#[]⟩ : ByteArray)) := (blk_cell BK138.out 1).trans rfl
              have hcz49_2 : wr.cell? ⟨gb138, 2, none⟩ = some (.int .i64 0) := (blk_cell BK138.out 2).trans rfl
              have hcz49_3 : wr.cell? ⟨gb138, 3, none⟩ = some (.slice none 0 0) := (blk_cell BK138.out 3).trans rfl
              have hcz49_4 : wr.cell? ⟨gb138, 4, none⟩ = some (u139004) := (blk_cell BK138.out 4).trans rfl
              have hfz49_0 := blk_frozen BK138.out 0
              have hfz49_1 := blk_frozen BK138.out 1
              have hfz49_2 := blk_frozen BK138.out 2
              have hfz49_3 := blk_frozen BK138.out 3
              have hfz49_4 := blk_frozen BK138.out 4
              have hnb50 := NB114_0.out
              have hnc50 := NB0_114.out
              have hcz51_0 : wr.cell? ⟨gb114, 0, none⟩ = some (.int .i64 0) := (blk_cell BK114.out 0).trans rfl
              have hcz51_1 : wr.cell? ⟨gb114, 1, none⟩ = some (.string (⟨#[]⟩ : ByteArray)) := (blk_cell BK114.out 1).trans rfl
              have hcz51_2 : wr.cell? ⟨gb114, 2, none⟩ = some (.int .i64 0) := (blk_cell BK114.out 2).trans rfl
              have hcz51_3 : wr.cell? ⟨gb114, 3, none⟩ = some (.slice none 0 0) := (blk_cell BK114.out 3).trans rfl
              have hcz51_4 : wr.cell? ⟨gb114, 4, none⟩ = some (.slice none 0 0) := (blk_cell BK114.out 4).trans rfl
              have hfz51_0 := blk_frozen BK114.out 0
              have hfz51_1 := blk_frozen BK114.out 1
              have hfz51_2 := blk_frozen BK114.out 2
              have hfz51_3 := blk_frozen BK114.out 3
              have hfz51_4 := blk_frozen BK114.out 4
              obtain ⟨Ao52, co52, eo52⟩ := Kd.R_slice HO_139004.out
              subst eo52
              go_wp2
              refine bodyPost_ret (results_cell_row rfl _ _ gb114 31 #[.int .i64 3, .string (⟨#[]⟩ : ByteArray), .int .i64 0, .slice none 0 0, .slice Ao52 x139004_2.length co52] (0, 0) _ rfl (by (with_reducible repeat (first | refine blk_drewN ?_ _ | refine blk_drew ?_ | refine blk_alloc ?_ _)); refine blk_put (cs := #[.int .i64 3, .string (⟨#[]⟩ : ByteArray), .int .i64 0, .slice none 0 0, .slice none 0 0]) ?_ 4 _ rfl; (with_reducible repeat (first | refine blk_drewN ?_ _ | refine blk_drew ?_ | refine blk_alloc ?_ _)); refine blk_put (cs := #[.int .i64 3, .string (⟨#[]⟩ : ByteArray), .int .i64 0, .slice none 0 0, .slice none 0 0]) ?_ 3 _ rfl; (with_reducible repeat (first | refine blk_drewN ?_ _ | refine blk_drew ?_ | refine blk_alloc ?_ _)); refine blk_put (cs := #[.int .i64 3, .string (⟨#[]⟩ : ByteArray), .int .i64 0, .slice none 0 0, .slice none 0 0]) ?_ 2 _ rfl; (with_reducible repeat (first | refine blk_drewN ?_ _ | refine blk_drew ?_ | refine blk_alloc ?_ _)); refine blk_put (cs := #[.int .i64 3, .string (⟨#[]⟩ : ByteArray), .int .i64 0, .slice none 0 0, .slice none 0 0]) ?_ 1 _ rfl; (with_reducible repeat (first | refine blk_drewN ?_ _ | refine blk_drew ?_ | refine blk_alloc ?_ _)); refine blk_put (cs := #[.int .i64 0, .string (⟨#[]⟩ : ByteArray), .int .i64 0, .slice none 0 0, .slice none 0 0]) ?_ 0 _ rfl; (with_reducible repeat (first | refine blk_drewN ?_ _ | refine blk_drew ?_ | refine blk_alloc ?_ _)); exact BK114.out) Try.underlying31 rfl (by kernel_rfl)) rfl ?_
              exact ⟨_, _, by first | rfl | (simp [errW_none, errW_some] <;> rfl) | (simp [*, errW_none, errW_some] <;> rfl), by first | exact Kd.R_nil _ _ _ _ _ | exact Kd.N_nil _ _ _ _ _ | exact Kd.V_nil _ _ _ _ _ | exact Kd.Q_nil _ _ _ _ _ | exact Kd.S_nil _ _ _ _ _, by (with_reducible repeat (first | apply Kd.R_alloc | apply Kd.R_drewN | apply Kd.R_drew)); exact Kd.R_mono (Kd.R_far (p := ⟨gb114, 4, none⟩) (Kd.R_far (p := ⟨gb114, 3, none⟩) (Kd.R_far (p := ⟨gb114, 2, none⟩) (Kd.R_far (p := ⟨gb114, 1, none⟩) (Kd.R_far (p := ⟨gb114, 0, none⟩) (Kd.R_mono HO_139004.out (fun k_ hk => (⟨hk, hk.1⟩ : _ ∧ k_ ≠ gb114))) (fun _ hk => hk.2) (.int .i64 3)) (fun _ hk => hk.2) (.string (⟨#[]⟩ : ByteArray))) (fun _ hk => hk.2) (.int .i64 0)) (fun _ hk => hk.2) (.slice none 0 0)) (fun _ hk => hk.2) (.slice Ao52 x139004_2.length co52)) (fun _ hk => (by simp [Value.ownBlock])), by repeat (first | (with_reducible first | exact HI0.out | apply IsS108.alloc | apply IsS108.drewN | apply IsS108.drew | apply IsS108.set_1 | refine IsS108.far ?_ NB0_114.out _ | refine IsS108.far ?_ NB0_138.out _) | exact HI0.out), by repeat (first | (with_reducible first | exact HB.out | apply below_alloc | apply pw_below_drewN | apply below_drew1 | refine below_set ?_ (IsS108.ge HI0.out) | refine below_set ?_ GE114.out | refine below_set ?_ GE138.out) | exact HB.out), by repeat (first | (with_reducible first | exact HK.out | apply KeepBut.set_ | apply keep_drewN | apply keep_drew | apply keep_alloc | refine keep_far ?_ GW114.out _ | refine keep_far ?_ GW138.out _) | exact HK.out)⟩

/-! ### spec_l1Count: function 102 -/
mutual
def spec_l1Count.l0 : Nat → Int → Int → Int → ByteArray → Int → List Int → List (S31) → Option (Int)
  | 0, _, _, _, _, _, _, _ => none
  | k + 1, x3, x4, x175000, x175001, x175002, x175003, x175004 => if x4 < (x175004.length : Int) then (if 0 ≤ x4 then ((spec_l1Count.f k ((rd_T31 x175004 x4).f0) ((rd_T31 x175004 x4).f1) ((rd_T31 x175004 x4).f2) ((rd_T31 x175004 x4).f3) ((rd_T31 x175004 x4).f4)).bind fun t176 => (spec_l1Count.l0 k (wrap64 (x3 + t176)) (wrap64 (x4 + 1)) x175000 x175001 x175002 x175003 x175004)) else (none)) else (some x3)
def spec_l1Count.f : Nat → Int → ByteArray → Int → List Int → List (S31) → Option (Int)
  | 0, _, _, _, _, _ => none
  | k + 1, a0_0, a0_1, a0_2, l0_3, l0_4 => spec_l1Count.l0 k 1 0 a0_0 a0_1 a0_2 l0_3 l0_4
end
theorem spec_l1Count.mono_l : ∀ k, (∀ y0 y1 y2 y3 y4, LeO (spec_l1Count.f k y0 y1 y2 y3 y4) (spec_l1Count.f (k + 1) y0 y1 y2 y3 y4)) ∧ (∀ y0 y1 y2 y3 y4 y5 y6, LeO (spec_l1Count.l0 k y0 y1 y2 y3 y4 y5 y6) (spec_l1Count.l0 (k + 1) y0 y1 y2 y3 y4 y5 y6))
  | 0 => ⟨fun _ _ _ _ _ r h => by simp [spec_l1Count.f] at h, fun _ _ _ _ _ _ _ r h => by simp [spec_l1Count.l0] at h⟩
  | k + 1 => by
    obtain ⟨ih0, ih1⟩ := spec_l1Count.mono_l k
    refine ⟨?_, ?_⟩
    · intro y0 y1 y2 y3 y4
      unfold spec_l1Count.f
      repeat' first
      | (with_reducible exact ih0 _ _ _ _ _)
      | (with_reducible exact ih1 _ _ _ _ _ _ _)
      | (with_reducible exact LeO.refl _)
      | (with_reducible exact LeO.none _)
      | (with_reducible refine LeO.ite ?_ ?_)
      | (with_reducible refine LeO.bind ?_ (fun _ => ?_))
      | exact ih0 _ _ _ _ _
      | exact ih1 _ _ _ _ _ _ _
      | exact LeO.none _
      | refine LeO.ite ?_ ?_
      | refine LeO.bind ?_ (fun _ => ?_)
    · intro y0 y1 y2 y3 y4 y5 y6
      unfold spec_l1Count.l0
      repeat' first
      | (with_reducible exact ih0 _ _ _ _ _)
      | (with_reducible exact ih1 _ _ _ _ _ _ _)
      | (with_reducible exact LeO.refl _)
      | (with_reducible exact LeO.none _)
      | (with_reducible refine LeO.ite ?_ ?_)
      | (with_reducible refine LeO.bind ?_ (fun _ => ?_))
      | exact ih0 _ _ _ _ _
      | exact ih1 _ _ _ _ _ _ _
      | exact LeO.none _
      | refine LeO.ite ?_ ?_
      | refine LeO.bind ?_ (fun _ => ?_)
theorem spec_l1Count.mono : ∀ a0 a1 a2 a3 a4 k, LeO (spec_l1Count.f k a0 a1 a2 a3 a4) (spec_l1Count.f (k + 1) a0 a1 a2 a3 a4) := by
  intro a0 a1 a2 a3 a4 k
  obtain ⟨ih0, ih1⟩ := spec_l1Count.mono_l k
  exact ih0 a0 a1 a2 a3 a4
set_option maxHeartbeats 8000000 in
set_option maxRecDepth 100000 in
theorem spec_l1Count.calls (k : Nat) : ∀ (a0_0 : Int) (a0_1 : ByteArray) (a0_2 : Int) (A0_3 : Option Addr) (c0_3 : Nat) (l0_3 : List Int) (A0_4 : Option Addr) (c0_4 : Nat) (l0_4 : List (S31)) (r : Int) (w : World) (hr0_3 : Kd.C (Kd.int .i64) w A0_3 l0_3.length l0_3) (hc0_3 : l0_3.length ≤ c0_3) (hr0_4 : Kd.C k31 w A0_4 l0_4.length l0_4) (hc0_4 : l0_4.length ≤ c0_4) (h : spec_l1Count.f k a0_0 a0_1 a0_2 l0_3 l0_4 = some r),
    Calls Try.prog 102 #[.agg #[.int .i64 a0_0, .string a0_1, .int .i64 a0_2, .slice A0_3 l0_3.length c0_3, .slice A0_4 l0_4.length c0_4]] w fun e w' => e = .returned (.int .i64 r) ∧ Below w.heap.size w w' := by
  induction k using Nat.strongRecOn with
  | _ k ih =>
  intro a0_0 a0_1 a0_2 A0_3 c0_3 l0_3 A0_4 c0_4 l0_4 r w hr0_3 hc0_3 hr0_4 hc0_4 h
  cases k with
  | zero => exact absurd h (by simp [spec_l1Count.f])
  | succ k =>
  simp only [spec_l1Count.f] at h
  have hu31 := Try.underlying31
  have HR0_3 := Aside0.mk hr0_3
  have HC0_3 := Aside0.mk hc0_3
  clear hr0_3 hc0_3
  have HR0_4 := Aside0.mk hr0_4
  have HC0_4 := Aside0.mk hc0_4
  clear hr0_4 hc0_4
  have HB := Aside0.mk (Below.refl w.heap.size w)
  have H : (spec_l1Count.l0 k 1 0 a0_0 a0_1 a0_2 l0_3 l0_4) = some r := h
  clear h
  have H' := Aside0.mk H
  clear H
  go_enter Try.func102, Try.ntmps102
  go_wp2_with (first | ((with_reducible refine gate_dst (N := 1) rfl ?_); refine box_event ?hg (N := 1) ?hd (cs := #[.int .i64 a0_0, .string a0_1, .int .i64 a0_2, .slice A0_3 l0_3.length c0_3, .slice A0_4 l0_4.length c0_4]) (t := 31) ?hr ?_; (case hd => rfl); (case hg => rfl); (case hr => first | (go_simp; done) | (go_simp; rfl)); intro gb174 hg w2 hbox hb; have n0_ := Aside0.mk (below_step (by repeat (first | (with_reducible first | exact HB.out | apply below_alloc | apply pw_below_drewN | apply below_drew1) | exact HB.out)) hb); have n1_ := Aside0.mk (hbox); have n2_ := Aside0.mk ((by rw [hg]; exact (below_size (by repeat (first | (with_reducible first | exact HB.out | apply below_alloc | apply pw_below_drewN | apply below_drew1) | exact HB.out))) : w.heap.size ≤ gb174)); have n3_ := Aside0.mk ((by rw [hg]; exact (below_size (by repeat (first | (with_reducible first | exact HB.out | apply below_alloc | apply pw_below_drewN | apply below_drew1) | exact HB.out))) : w.heap.size ≤ gb174)); clear HB; have HB := n0_; have BK174 := n1_; have GW174 := n2_; have GE174 := n3_; clear n0_ n1_ n2_ n3_; clear hb hbox hg))
  go_loopg [3, 4] k (fun kq v3 v4 w' => ∃ (x3_1 : Int) (x4_1 : Int), v3 = .int .i64 x3_1 ∧ v4 = .int .i64 x4_1 ∧ Aside0 (spec_l1Count.l0 kq x3_1 x4_1 a0_0 a0_1 a0_2 l0_3 l0_4 = some r) ∧ Aside0 (kq ≤ k) ∧ Aside0 (w'.heap[gb174]? = some (.cells #[.int .i64 a0_0, .string a0_1, .int .i64 a0_2, (.slice A0_3 l0_3.length c0_3), (.slice A0_4 l0_4.length c0_4)] 31 (0, 0))) ∧ Aside0 (Below w.heap.size w w'))
  case atStart => exact ⟨(1), (0), (by first | rfl | (simp; done) | (simp [*]; done)), (by first | rfl | (simp; done) | (simp [*]; done)), H', ⟨Nat.le_refl _⟩, ⟨by (with_reducible repeat (first | refine blk_drewN ?_ _ | refine blk_drew ?_ | refine blk_alloc ?_ _)); exact BK174.out⟩, ⟨by repeat (first | (with_reducible first | exact HB.out | apply below_alloc | apply pw_below_drewN | apply below_drew1 | refine below_set ?_ GE174.out) | exact HB.out)⟩⟩
  case round =>
    clear H'
    try clear c1
    try clear p2
    obtain ⟨x3_1, x4_1, rfl, rfl, HA, HK1, BK174, HB⟩ := hrel
    cases gk with
    | zero => exact absurd HA.out (by simp [spec_l1Count.l0])
    | succ k1 =>
      have H := HA.out
      clear HA
      simp only [spec_l1Count.l0] at H
      by_cases c3 : x4_1 < (l0_4.length : Int)
      · rw [if_pos c3] at H
        have c3b0 : decide (x4_1 < (l0_4.length : Int)) = true := decide_eq_true c3
        clear c3
        by_cases c4 : 0 ≤ x4_1
        · rw [if_pos c4] at H
          have c4b0 : decide (0 ≤ x4_1) = true := decide_eq_true c4
          clear c4
          replace H := Option.bind_eq_some_iff.mp H
          obtain ⟨t176, A50, H⟩ := H
          replace H : (spec_l1Count.l0 k1 (wrap64 (x3_1 + t176)) (wrap64 (x4_1 + 1)) a0_0 a0_1 a0_2 l0_3 l0_4) = some r := H
          have A5 := Aside0.mk A50
          clear A50
          have H' := Aside0.mk H
          clear H
          have hcz6_0 : wr.cell? ⟨gb174, 0, none⟩ = some (.int .i64 a0_0) := (blk_cell BK174.out 0).trans rfl
          have hcz6_1 : wr.cell? ⟨gb174, 1, none⟩ = some (.string a0_1) := (blk_cell BK174.out 1).trans rfl
          have hcz6_2 : wr.cell? ⟨gb174, 2, none⟩ = some (.int .i64 a0_2) := (blk_cell BK174.out 2).trans rfl
          have hcz6_3 : wr.cell? ⟨gb174, 3, none⟩ = some (.slice A0_3 l0_3.length c0_3) := (blk_cell BK174.out 3).trans rfl
          have hcz6_4 : wr.cell? ⟨gb174, 4, none⟩ = some (.slice A0_4 l0_4.length c0_4) := (blk_cell BK174.out 4).trans rfl
          have hfz6_0 := blk_frozen BK174.out 0
          have hfz6_1 := blk_frozen BK174.out 1
          have hfz6_2 := blk_frozen BK174.out 2
          have hfz6_3 := blk_frozen BK174.out 3
          have hfz6_4 := blk_frozen BK174.out 4
          have p175 : 0 ≤ (x4_1 : Int) := of_decide_eq_true (by first | (with_reducible assumption) | assumption)
          have q175 : x4_1 < (l0_4.length : Int) := of_decide_eq_true (by first | (with_reducible assumption) | assumption)
          obtain ⟨ad175, A175_3, c175_3, A175_4, c175_4, e175, hx175_0, hx175_1, hx175_2, hx175_3, hx175_4, hl175_3, hi175_3, hl175_4, hi175_4⟩ := at_T31 HR0_4.out x4_1 p175 q175
          cases e175
          replace hx175_0 := (HB.out.cell (World.block_lt_of_cell? w _ hx175_0)).trans hx175_0
          replace hx175_1 := (HB.out.cell (World.block_lt_of_cell? w _ hx175_1)).trans hx175_1
          replace hx175_2 := (HB.out.cell (World.block_lt_of_cell? w _ hx175_2)).trans hx175_2
          replace hx175_3 := (HB.out.cell (World.block_lt_of_cell? w _ hx175_3)).trans hx175_3
          replace hx175_4 := (HB.out.cell (World.block_lt_of_cell? w _ hx175_4)).trans hx175_4
          have HR175_3 := Aside0.mk hi175_3
          have HC175_3 := Aside0.mk hl175_3
          clear hi175_3 hl175_3
          have HR175_4 := Aside0.mk hi175_4
          have HC175_4 := Aside0.mk hl175_4
          clear hi175_4 hl175_4
          replace p175 := eq_true p175
          replace q175 := eq_true q175
          go_wp2_with (first | ((with_reducible refine gate_callee (f := 102) rfl ?_); refine goesL_ (some 18) rfl rfl Try.func102 (by kernel_rfl) rfl #[.agg #[.int .i64 ((rd_T31 l0_4 x4_1).f0), .string ((rd_T31 l0_4 x4_1).f1), .int .i64 ((rd_T31 l0_4 x4_1).f2), .slice A175_3 ((rd_T31 l0_4 x4_1).f3).length c175_3, .slice A175_4 ((rd_T31 l0_4 x4_1).f4).length c175_4]] rfl (by (try simp only [List.map_toArray, List.map_cons, List.map_nil]); first | done | rfl | (simp only [List.length_drop, List.length_take]; rfl)) ?_; (with_reducible refine (ih k1 (by have := HK1.out; omega) ((rd_T31 l0_4 x4_1).f0) ((rd_T31 l0_4 x4_1).f1) ((rd_T31 l0_4 x4_1).f2) _ _ ((rd_T31 l0_4 x4_1).f3) _ _ ((rd_T31 l0_4 x4_1).f4) t176 _ ?side1 ?side2 ?side3 ?side4 A5.out).mono ?_); (case side1 => repeat (first | exact (Kd.C_below HR175_3.out HB.out) | (with_reducible refine Kd.C_alloc ?_ _) | (with_reducible refine Kd.C_drewN ?_ _) | (with_reducible refine Kd.C_drew ?_))); (case side2 => exact HC175_3.out); (case side3 => repeat (first | exact (Kd.C_below HR175_4.out HB.out) | (with_reducible refine Kd.C_alloc ?_ _) | (with_reducible refine Kd.C_drewN ?_ _) | (with_reducible refine Kd.C_drew ?_))); (case side4 => exact HC175_4.out); rintro e w7 ⟨rfl, hb⟩; refine ⟨_, rfl, ?_⟩; have n0_ := Aside0.mk (blk_below (g := gb174) (o := .cells #[.int .i64 a0_0, .string a0_1, .int .i64 a0_2, .slice A0_3 l0_3.length c0_3, .slice (some ad175) l0_4.length c0_4] 31 (0, 0)) (by (with_reducible repeat (first | refine blk_drewN ?_ _ | refine blk_drew ?_ | refine blk_alloc ?_ _)); exact BK174.out) hb); have n1_ := Aside0.mk (below_step (by repeat (first | (with_reducible first | exact HB.out | apply below_alloc | apply pw_below_drewN | apply below_drew1 | refine below_set ?_ GE174.out) | exact HB.out)) hb); clear BK174; clear HB; have BK174 := n0_; have HB := n1_; clear n0_ n1_; (try clear hb); (try clear hb2); (try clear hk); (try clear hi)))
          go_roundg k1
          case measure => have := HK1.out; omega
          case rel => exact ⟨(wrap64 (x3_1 + t176)), (wrap64 (x4_1 + 1)), (by first | rfl | (simp; done) | (simp [*]; done)), (by first | rfl | (simp; done) | (simp [*]; done)), H', ⟨by have := HK1.out; omega⟩, ⟨by (with_reducible repeat (first | refine blk_drewN ?_ _ | refine blk_drew ?_ | refine blk_alloc ?_ _)); exact BK174.out⟩, ⟨by repeat (first | (with_reducible first | exact HB.out | apply below_alloc | apply pw_below_drewN | apply below_drew1 | refine below_set ?_ GE174.out) | exact HB.out)⟩⟩
        · rw [if_neg c4] at H
          exact absurd H (by simp)
      · rw [if_neg c3] at H
        have c3b0 : decide (x4_1 < (l0_4.length : Int)) = false := decide_eq_false c3
        clear c3
        obtain rfl := Option.some.inj H
        have hcz8_0 : wr.cell? ⟨gb174, 0, none⟩ = some (.int .i64 a0_0) := (blk_cell BK174.out 0).trans rfl
        have hcz8_1 : wr.cell? ⟨gb174, 1, none⟩ = some (.string a0_1) := (blk_cell BK174.out 1).trans rfl
        have hcz8_2 : wr.cell? ⟨gb174, 2, none⟩ = some (.int .i64 a0_2) := (blk_cell BK174.out 2).trans rfl
        have hcz8_3 : wr.cell? ⟨gb174, 3, none⟩ = some (.slice A0_3 l0_3.length c0_3) := (blk_cell BK174.out 3).trans rfl
        have hcz8_4 : wr.cell? ⟨gb174, 4, none⟩ = some (.slice A0_4 l0_4.length c0_4) := (blk_cell BK174.out 4).trans rfl
        have hfz8_0 := blk_frozen BK174.out 0
        have hfz8_1 := blk_frozen BK174.out 1
        have hfz8_2 := blk_frozen BK174.out 2
        have hfz8_3 := blk_frozen BK174.out 3
        have hfz8_4 := blk_frozen BK174.out 4
        go_wp2
        go_ret
        exact ⟨by first | rfl | (simp [errW_none, errW_some] <;> rfl) | (simp [*, errW_none, errW_some] <;> rfl), by repeat (first | (with_reducible first | exact HB.out | apply below_alloc | apply pw_below_drewN | apply below_drew1 | refine below_set ?_ GE174.out) | exact HB.out)⟩

end Go.Proofs.Ytlghpblifbaciaa.Q
end
section
namespace Go.Proofs.Ytlghpblifbaciaa
open Go.RowKit Go.Proofs.YtlghpblifbaciaaW.PrintWords Go.Proofs.Ytlghpblifbaciaa.Q
set_option linter.unusedVariables false
theorem ev_name (a : ByteArray) : spec_l1Name.f a = some ((1 : Int), a, (0 : Int), ([] : List Int), ([] : List Fm)) := rfl
theorem ev_some {s : List Int} (hs : Bts s) : ∀ d : Nat, d ≤ 4 → ∀ p : Nat, p + Bn d ≤ 900000 →
    ∃ (x : Fm) (q : Nat), q ≤ p + Bn d ∧ x.tot ≤ Bn d ∧ Ev (fun k => spec_l1Some.f k s (p : Int) (d : Int)) (x.f0, x.f1, x.f2, x.f3, x.f4, (q : Int)) := by
  have leaf : ∀ (d : Nat) (p : Nat), p ≤ 900002 → ∃ (x : Fm) (q : Nat), q ≤ p + 2 ∧ x.tot ≤ 13 ∧ Ev (fun k => spec_l1Some.j0 k (d : Int) true s (p : Int)) (x.f0, x.f1, x.f2, x.f3, x.f4, (q : Int)) := by
    intro d p hp
    obtain ⟨v, hv, e1⟩ := ev_pick hs p (by omega) 4 (by omega)
    by_cases h0 : v = 0
    · obtain ⟨n, hn, e2⟩ := ev_num hs (p + 1) (by omega) [0, 1, 2, 7, 42, 999] (by simp) (by simp)
      refine ⟨⟨2, ⟨#[]⟩, n, [], []⟩, p + 2, by omega, by simp [Fm.tot, totL, ByteArray.size], ?_⟩
      refine Ev.step (fun k => by rw [spec_l1Some.j0]) (Ev.pos rfl (Ev.bind e1 (Ev.pos h0 (Ev.bind e2 ?_))))
      exact Ev.now _
    · obtain ⟨n, hn, e2⟩ := ev_of hs (p + 1) (by omega) nms (by simp) (by simp)
      refine ⟨⟨1, n, 0, [], []⟩, p + 2, by omega, ?_, ?_⟩
      rotate_left
      · refine Ev.step (fun k => by rw [spec_l1Some.j0]) (Ev.pos rfl (Ev.bind e1 (Ev.neg h0 (Ev.bind e2 (Ev.bind (g := fun _ => _) (Ev.some (ev_name n)) ?_)))))
        exact Ev.now _
      · have := names_small n hn
        simp [Fm.tot, totL]; omega
  intro d
  induction d with
  | zero =>
    intro hd p hp
    obtain ⟨x, q, h1, h2, h3⟩ := leaf 0 p (by omega)
    refine ⟨x, q, by have : Bn 0 = 13 := rfl; omega, h2, Ev.step (fun k => by rw [spec_l1Some.f]) ?_⟩
    exact Ev.pos rfl h3
  | succ d ih =>
    intro hd p hp
    have hB := Bn_pos d
    have hBs : Bn (d + 1) = 13 + 3 * (Bn d + 1) := rfl
    have hB4 := Bn_le (d := d) (by omega)
    obtain ⟨v, hv, e1⟩ := ev_pick hs p (by omega) 3 (by omega)
    cases hz : (v == 0) with
    | true =>
      obtain ⟨x, q, h1, h2, h3⟩ := leaf (d + 1) (p + 1) (by omega)
      refine ⟨x, q, by have : Bn (d + 1) = 13 + 3 * (Bn d + 1) := rfl; omega, by have : Bn (d + 1) = 13 + 3 * (Bn d + 1) := rfl; omega, Ev.step (fun k => by rw [spec_l1Some.f]) (Ev.neg (by omega) (Ev.bind e1 ?_))⟩
      dsimp only
      rw [hz]
      exact h3
    | false =>
      obtain ⟨n, hn, e2⟩ := ev_pick hs (p + 1) (by omega) 4 (by omega)
      obtain ⟨m, rfl⟩ := Int.eq_ofNat_of_zero_le (hn (by omega)).1
      have hm : m ≤ 3 := by have := (hn (by omega)).2; omega
      obtain ⟨r, ⟨x, q, rfl, h1, h2⟩, hr⟩ := ev_loop (L := fun k (t : Int × Int × List Fm) => spec_l1Some.l0 k ((d + 1 : Nat) : Int) t.1 s t.2.1 3 ⟨#[]⟩ 0 t.2.2)
        (fun i t => ∃ q : Nat, t.1 = ((m - i : Nat) : Int) ∧ t.2.1 = (q : Int) ∧ q ≤ p + 2 + i * Bn d ∧ totL t.2.2 ≤ i * (Bn d + 1) ∧ t.2.2.length = i) m
        (fun r => ∃ (x : Fm) (q : Nat), r = (x.f0, x.f1, x.f2, x.f3, x.f4, (q : Int)) ∧ q ≤ p + 2 + m * Bn d ∧ x.tot ≤ m * (Bn d + 1)) (by
          rintro i ⟨t1, t2, t3⟩ hi ⟨q, rfl, rfl, hq, ht, hl⟩
          dsimp only at ht hl hq
          have hi3 : i * Bn d ≤ 2 * Bn d := Nat.mul_le_mul_right _ (by omega)
          obtain ⟨y, q', h1, h2, h3⟩ := ih (by omega) q (by omega)
          refine ⟨(((m - (i + 1) : Nat) : Int), (q' : Int), t3 ++ [y]), ⟨q', rfl, rfl, ?_, ?_, by simp [hl]⟩, fun r hr => ?_⟩
          · rw [Nat.succ_mul]; omega
          · rw [totL_append, Nat.succ_mul]; simp only [totL]; omega
          · refine Ev.step (fun k => by rw [spec_l1Some.l0]) (Ev.pos (by show ((m - i : Nat) : Int) > 0; omega) ?_)
            rw [show wrap64 (((d + 1 : Nat) : Int) - 1) = (d : Int) from by rw [wr_in (by omega) (by omega)]; omega]
            refine Ev.bind h3 (Ev.pos (by show t3.length < _; change t3.length = i at hl; omega) ?_)
            dsimp only
            rw [Fm.eta, show wrap64 (((m - i : Nat) : Int) - 1) = ((m - (i + 1) : Nat) : Int) from by rw [wr_in (by omega) (by omega)]; omega]
            exact hr) (by
          rintro ⟨t1, t2, t3⟩ ⟨q, rfl, rfl, hq, ht, hl⟩
          refine ⟨_, ⟨⟨3, ⟨#[]⟩, 0, [], t3⟩, q, rfl, hq, by simp [Fm.tot, ByteArray.size]; omega⟩, Ev.step (fun k => by rw [spec_l1Some.l0]) (Ev.neg (by simp) (Ev.now _))⟩)
        (((m : Nat) : Int), ((p + 2 : Nat) : Int), []) ⟨p + 2, by simp, rfl, by omega, by simp [totL], rfl⟩
      have hm3 : m * Bn d ≤ 3 * Bn d := Nat.mul_le_mul_right _ hm
      have hm4 : m * (Bn d + 1) ≤ 3 * (Bn d + 1) := Nat.mul_le_mul_right _ hm
      refine ⟨x, q, by have : Bn (d + 1) = 13 + 3 * (Bn d + 1) := rfl; omega, by have : Bn (d + 1) = 13 + 3 * (Bn d + 1) := rfl; omega, Ev.step (fun k => by rw [spec_l1Some.f]) (Ev.neg (by omega) (Ev.bind e1 ?_))⟩
      dsimp only
      rw [hz]
      refine Ev.step (fun k => by rw [spec_l1Some.j0]) (Ev.neg (by simp) (Ev.bind e2 ?_))
      exact hr
end Go.Proofs.Ytlghpblifbaciaa
end
section
namespace Go.Proofs.Ytlghpblifbaciaa
open Go.RowKit Go.Proofs.YtlghpblifbaciaaW.PrintWords Go.Proofs.YtlghpblifbaciaaW.PrintLast Go.Proofs.YtlghpblifbaciaaW.PrintMore
set_option linter.unusedVariables false
set_option linter.unusedSimpArgs false
/-- The form x reads in w, and in every world in which the blocks from lo on stand as_ in w. -/
structure FmS (lo : Nat) (w : World) (x : Fm) (A3 : Option Addr) (c3 : Nat) (A4 : Option Addr) (c4 : Nat) : Prop where mk ::
  out : ∀ W : World, (∀ b, lo ≤ b → b < w.heap.size → W.heap[b]? = w.heap[b]?) → FmIn W x A3 c3 A4 c4
theorem FmS.now {lo : Nat} {w : World} {x : Fm} {A3 : Option Addr} {c3 : Nat} {A4 : Option Addr} {c4 : Nat} (h : FmS lo w x A3 c3 A4 c4) : FmIn w x A3 c3 A4 c4 := h.out w (fun _ _ _ => rfl)
theorem FmS.move {lo : Nat} {w W : World} {x : Fm} {A3 : Option Addr} {c3 : Nat} {A4 : Option Addr} {c4 : Nat} (h : FmS lo w x A3 c3 A4 c4) (hs : w.heap.size ≤ W.heap.size) (hm : ∀ b, lo ≤ b → b < w.heap.size → W.heap[b]? = w.heap[b]?) : FmS lo W x A3 c3 A4 c4 :=
  ⟨fun W' h' => h.out W' (fun b h1 h2 => (h' b h1 (Nat.lt_of_lt_of_le h2 hs)).trans (hm b h1 h2))⟩
theorem FmS.later {lo : Nat} {w W : World} {x : Fm} {A3 : Option Addr} {c3 : Nat} {A4 : Option Addr} {c4 : Nat} (h : FmS lo w x A3 c3 A4 c4) (hb : Below w.heap.size w W) : FmS lo W x A3 c3 A4 c4 := h.move hb.size (fun b _ hlt => hb.block b hlt)
theorem FmS.keep {lo g : Nat} {w W : World} {x : Fm} {A3 : Option Addr} {c3 : Nat} {A4 : Option Addr} {c4 : Nat} (h : FmS lo w x A3 c3 A4 c4) (hk : KeepBut w W g none) (hg : g < lo) : FmS lo W x A3 c3 A4 c4 := h.move hk.1 (fun b h1 hlt => hk.2 b hlt (by omega) (by simp))
theorem FmS.low {lo lo' : Nat} {w : World} {x : Fm} {A3 : Option Addr} {c3 : Nat} {A4 : Option Addr} {c4 : Nat} (h : FmS lo w x A3 c3 A4 c4) (hl : lo' ≤ lo) : FmS lo' w x A3 c3 A4 c4 := ⟨fun W hW => h.out W (fun b h1 h2 => hW b (Nat.le_trans hl h1) h2)⟩
/-- A form and another value are handed back; the form lies in new memory. -/
def GetFS (w : World) (x : Fm) (v : Value) (e : Ending) (w' : World) : Prop := ∃ A3 c3 A4 c4, e = .returned (.tuple #[.agg #[.int .i64 x.f0, .string x.f1, .int .i64 x.f2, .slice A3 x.f3.length c3, .slice A4 x.f4.length c4], v]) ∧ FmS w.heap.size w' x A3 c3 A4 c4 ∧ Below w.heap.size w w'
theorem GetFS.V {w : World} {x : Fm} {v : Value} {e : Ending} {w' : World} (h : GetFS w x v e w') : GetFV w x v e w' := by
  obtain ⟨A3, c3, A4, c4, he, hs, hb⟩ := h
  exact ⟨A3, c3, A4, c4, he, hs.now, hb⟩
theorem NewF.toS {B : Nat} {w : World} {x : Fm} {v3 v4 : Value} (h : NewF B w x v3 v4) : ∃ A3 c3 A4 c4, v3 = .slice A3 x.f3.length c3 ∧ v4 = .slice A4 x.f4.length c4 ∧ FmS B w x A3 c3 A4 c4 := by
  obtain ⟨fp, ht, _, hge⟩ := h
  obtain ⟨A3, c3, A4, c4, rfl, rfl, _⟩ := ht.In
  refine ⟨A3, c3, A4, c4, rfl, rfl, ⟨fun W hW => ?_⟩⟩
  obtain ⟨B3, d3, B4, d4, e3, e4, hi⟩ := (ht.move (w1 := W) x (fun b hb => hW b (hge b hb) (ht.lt x b hb))).In
  injection e3 with a1 _ a2
  injection e4 with a3 _ a4
  subst a1 a2 a3 a4
  exact hi
theorem FmS.ofR {B : Nat} {w : World} {x : Fm} {ok ok' : Nat → Prop} {v3 v4 : Value} (h3 : kI.R 3 w B ok v3 x.f3) (h4 : kF.R 31 w B ok' v4 x.f4) : ∃ A3 c3 A4 c4, v3 = .slice A3 x.f3.length c3 ∧ v4 = .slice A4 x.f4.length c4 ∧ FmS B w x A3 c3 A4 c4 := by
  obtain ⟨A3, c3, A4, c4, rfl, rfl, _⟩ := FmIn.ofR h3 h4
  refine ⟨A3, c3, A4, c4, rfl, rfl, ⟨fun W hW => ?_⟩⟩
  have k3 := Kd.R_move (w1 := W) (Kd.R_bound h3) (fun k hk => hW k hk.2.1 hk.2.2.1)
  have k4 := Kd.R_move (w1 := W) (Kd.R_bound h4) (fun k hk => hW k hk.2.1 hk.2.2.1)
  obtain ⟨B3, d3, B4, d4, e3, e4, hi⟩ := FmIn.ofR k3 k4
  injection e3 with a1 _ a2
  injection e4 with a3 _ a4
  subst a1 a2 a3 a4
  exact hi
/-- A form is drawn: it lies in new memory, and the source stands at q. -/
def DrGet (w0 : World) (g : Nat) (s : List Int) (q : Nat) (y : Fm) (w : World) (e : Ending) (w' : World) : Prop :=
  ∃ A3 c3 A4 c4, e = .returned (.agg #[.int .i64 y.f0, .string y.f1, .int .i64 y.f2, .slice A3 y.f3.length c3, .slice A4 y.f4.length c4]) ∧ FmS w.heap.size w' y A3 c3 A4 c4 ∧ IsRd w0 w' g s (q : Int) ∧ Below w0.heap.size w0 w' ∧ KeepBut w w' g none
theorem DrPost.get {w0 : World} {g : Nat} {s : List Int} {q : Nat} {y : Fm} {w : World} {e : Ending} {w' : World} (h : DrPost w0 g s (q : Int) y w e w') : DrGet w0 g s q y w e w' := by
  obtain ⟨v3, v4, rfl, hn, hi, hb, hk⟩ := h
  obtain ⟨A3, c3, A4, c4, rfl, rfl, hs⟩ := hn.toS
  exact ⟨A3, c3, A4, c4, rfl, hs, hi, hb, hk⟩
def SomeOk (s : List Int) (d : Nat) (p : Nat) (y : Fm) (q : Nat) : Prop := ∀ (g : Nat) (w0 w : World), IsRd w0 w g s (p : Int) → Below w0.heap.size w0 w → Calls Try.prog 119 #[.pointer (some ⟨g, 0, none⟩), .int .i64 (d : Int)] w (DrGet w0 g s q y w)
theorem some_ex {s : List Int} (hs : Bts s) (d : Nat) (hd : d ≤ 4) (p : Nat) (hp : p + Bn d ≤ 900000) : ∃ (y : Fm) (q : Nat), q ≤ p + Bn d ∧ y.tot ≤ Bn d ∧ SomeOk s d p y q := by
  obtain ⟨y, q, h1, h2, h3⟩ := ev_some hs d hd p hp
  obtain ⟨k, hk⟩ := h3.rounds
  refine ⟨y, q, h1, h2, fun g w0 w hi hb => (Q.spec_l1Some.calls k g s p d _ _ _ _ _ _ w0 w hi hb hk).mono ?_⟩
  rintro e w' ⟨v3, v4, rfl, r3, r4, hi', hb', hk'⟩
  obtain ⟨A3, c3, A4, c4, rfl, rfl, hs'⟩ := FmS.ofR r3 r4
  exact ⟨A3, c3, A4, c4, rfl, hs', hi', hb', hk'⟩
/-- A pick. -/
theorem pick_at {s : List Int} {p : Nat} {n v : Int} (h : Ev (fun k => Q.spec_l15Rd_pick.f k s (p : Int) n) (v, ((p + 1 : Nat) : Int))) (g : Nat) (w0 W : World) (hi : IsRd w0 W g s (p : Int)) (hb : Below w0.heap.size w0 W) :
    Calls Try.prog 97 #[.pointer (some ⟨g, 0, none⟩), .int .i64 n] W (fun e w' => e = .returned (.int .i64 v) ∧ IsRd w0 w' g s ((p + 1 : Nat) : Int) ∧ Below w0.heap.size w0 w' ∧ KeepBut W w' g none) := by
  obtain ⟨k, hk⟩ := h.rounds
  refine (Q.spec_l15Rd_pick.calls k g s _ n v _ w0 _ hi hb hk).mono ?_
  rintro e w' ⟨rfl, h1, h2, h3⟩
  exact ⟨rfl, h1, h2, h3⟩
/-- The source is opened. -/
theorem open_at (l : List Int) (hl : ∀ z, z ∈ l → 0 ≤ z ∧ z < 256) : ∃ s, Bts s ∧ ∀ (A : Option Addr) (c : Nat) (w0 w : World), Below w0.heap.size w0 w → (Kd.int .u8).C w0 A l.length l → l.length ≤ c →
    Calls Try.prog 96 #[.slice A l.length c] w (fun e w' => ∃ g, e = .returned (.pointer (some ⟨g, 0, none⟩)) ∧ IsRd w0 w' g s ((0 : Nat) : Int) ∧ Below w0.heap.size w0 w' ∧ Below w.heap.size w w') := by
  obtain ⟨s, hs, he⟩ := ev_open l hl
  refine ⟨s, hs, fun A c w0 w hb hr hc => ?_⟩
  exact (Q.spec_l15Open.calls A c l s 0 w0 w hb hr hc he).mono fun e w' h => h
end Go.Proofs.Ytlghpblifbaciaa
end
section
namespace Go.Proofs.Ytlghpblifbaciaa
open Go.RowKit Go.Proofs.YtlghpblifbaciaaW.PrintWords Go.Proofs.YtlghpblifbaciaaW.PrintLast Go.Proofs.YtlghpblifbaciaaW.PrintMore
set_option linter.unusedVariables false
set_option linter.unusedSimpArgs false
end Go.Proofs.Ytlghpblifbaciaa
end
section
namespace Go.Proofs.Ytlghpblifbaciaa
open Go.RowKit Go.Proofs.YtlghpblifbaciaaW.PrintWords Go.Proofs.YtlghpblifbaciaaW.PrintLast Go.Proofs.YtlghpblifbaciaaW.PrintMore
set_option linter.unusedVariables false
set_option linter.unusedSimpArgs false
end Go.Proofs.Ytlghpblifbaciaa
end
section
namespace Go.Proofs.Ytlghpblifbaciaa
open Go.RowKit Go.Proofs.YtlghpblifbaciaaW.PrintWords Go.Proofs.YtlghpblifbaciaaW.PrintLast Go.Proofs.YtlghpblifbaciaaW.PrintMore
set_option linter.unusedVariables false
set_option linter.unusedSimpArgs false
theorem byteOk {n : Int} (h : (Lit.int .u8 n).wf = true) : 0 ≤ n ∧ n < 256 := by
  simp only [Lit.wf, Bool.and_eq_true, decide_eq_true_eq] at h
  have e1 : IntKind.u8.min = 0 := by decide
  have e2 : IntKind.u8.max = 255 := by decide
  omega
theorem sameT (x : Fm) (A3 : Option Addr) (c3 : Nat) (A4 : Option Addr) (c4 : Nat) (B3 : Option Addr) (d3 : Nat) (B4 : Option Addr) (d4 : Nat) (w : World) (h1 : FmIn w x A3 c3 A4 c4) (h2 : FmIn w x B3 d3 B4 d4) :
    Calls Try.prog 44 #[.agg #[.int .i64 x.f0, .string x.f1, .int .i64 x.f2, .slice A3 x.f3.length c3, .slice A4 x.f4.length c4], .agg #[.int .i64 x.f0, .string x.f1, .int .i64 x.f2, .slice B3 x.f3.length d3, .slice B4 x.f4.length d4]] w (Ret w (.bool true)) := by
  have := implSame_any x x A3 c3 A4 c4 B3 d3 B4 d4 w h1 h2
  rwa [eqB_self] at this
/-- The parts of a changed form are its changed parts; without scopes it is as_ it was. -/
theorem isOk_succ : ∀ (n : Nat) (x : Fm), IsOk n x → IsOk (n + 1) x
  | 0, x, h => by cases x; exact absurd h (by simp [IsOk])
  | n + 1, x, h => by
    unfold IsOk at h ⊢
    rcases h with h | h | ⟨a, b, c, d, e⟩
    · exact .inl h
    · exact .inr (.inl h)
    · exact .inr (.inr ⟨a, b, c, d, fun k hk => isOk_succ n k (e k hk)⟩)
theorem size_kid {x k : Fm} (h : k ∈ x.f4) : k.size < x.size := by
  have := sizes_mem h
  have := x.size_eq
  omega
theorem fmOk_kid {x : Fm} (h : FmOk x) : ∀ k, k ∈ x.f4 → FmOk k := by
  intro k hk
  refine ⟨?_, by have := size_kid hk; have := h.2; omega⟩
  obtain ⟨m, e, hc⟩ := isOk_cases h.1
  obtain rfl : m = 39 := by omega
  rcases hc with ⟨_, _, _, _, d⟩ | ⟨_, _, _, _, _, d⟩ | ⟨_, _, _, _, d⟩
  · rw [d] at hk; cases hk
  · rw [d] at hk; cases hk
  · exact isOk_succ 39 k (d k hk)
theorem RetF.get {w : World} {x : Fm} {e : Ending} {w' : World} (h : RetF w x e w') : GetF w x e w' := by
  obtain ⟨v3, v4, rfl, hn, hb⟩ := h
  obtain ⟨A3, c3, A4, c4, rfl, rfl, hi⟩ := hn.In
  exact ⟨A3, c3, A4, c4, rfl, hi, hb⟩
end Go.Proofs.Ytlghpblifbaciaa
end
section
namespace Go.Proofs.Ytlghpblifbaciaa
open Go.RowKit Go.Proofs.YtlghpblifbaciaaW.PrintWords Go.Proofs.YtlghpblifbaciaaW.PrintLast Go.Proofs.YtlghpblifbaciaaW.PrintMore
set_option linter.unusedVariables false
theorem implValid' {x : Fm} {b : Bool} (h : pB (FmOk x) = b) (A3 : Option Addr) (c3 : Nat) (A4 : Option Addr) (c4 : Nat) (w : World) (hin : FmIn w x A3 c3 A4 c4) (ht : x.tot ≤ 1048576) :
    Calls Try.prog 53 #[.agg #[.int .i64 x.f0, .string x.f1, .int .i64 x.f2, .slice A3 x.f3.length c3, .slice A4 x.f4.length c4]] w (Ret w (.bool b)) := h ▸ implValid_any x A3 c3 A4 c4 w hin ht
end Go.Proofs.Ytlghpblifbaciaa
end
section
namespace Go.Proofs.Ytlghpblifbaciaa
open Go.RowKit Go.Proofs.YtlghpblifbaciaaW.PrintWords Go.Proofs.YtlghpblifbaciaaW.PrintLast Go.Proofs.YtlghpblifbaciaaW.PrintMore
set_option linter.unusedVariables false
set_option linter.unusedSimpArgs false
/-- The form of a list of forms. -/
abbrev lf (ks : List Fm) : Fm := ⟨3, ⟨#[]⟩, 0, [], ks⟩
theorem lf_in {w : World} {ks : List Fm} {A : Option Addr} {c : Nat} (hr : kF.C w A ks.length ks) (hc : ks.length ≤ c) : FmIn w (lf ks) none 0 A c :=
  ⟨Nat.le_refl 0, Kd.C_nil kI w, hc, hr⟩
set_option maxHeartbeats 1000000 in
theorem implList_new (ks : List Fm) (A : Option Addr) (c : Nat) (w : World) (hr : kF.C w A ks.length ks) (hc : ks.length ≤ c) (ht : (lf ks).tot ≤ 1000000) : Calls Try.prog 64 #[.slice A ks.length c] w (RetT tellsNew w (orN (lf ks))) := by
  have HI := Lib.hid (fun W hb => formOr_any (lf ks) none 0 A c W ((lf_in hr hc).below hb) (by omega))
  clear hr hc ht
  go_enter Try.func64, Try.ntmps64
  go_wp2_with fail
  refine (HI.out _ (below_new _ _)).mono ?_
  rintro e w1 ⟨v3, v4, rfl, hT, hb⟩
  obtain ⟨E3, k3, E4, k4, rfl, rfl⟩ := tellsNew.form hT
  obtain ⟨k0, b1⟩ := one_new hb
  obtain ⟨q0, q1, q2, q3, q4⟩ := fm_cells k0
  obtain ⟨f0, f1, f2, f3, f4⟩ := fm_free k0
  have HT := Lib.hid hT
  have HB := Lib.hid b1
  clear hT hb k0 b1
  go_wp2_with fail
  refine bodyPost_ret (v := .tuple #[.agg #[.int .i64 (orN (lf ks)).1.f0, .string (orN (lf ks)).1.f1, .int .i64 (orN (lf ks)).1.f2, .slice E3 (orN (lf ks)).1.f3.length k3, .slice E4 (orN (lf ks)).1.f4.length k4], .bool (orN (lf ks)).2]) (by simp [results, Try.results64, go_sem, q0, q1, q2, q3, q4, f0, f1, f2, f3, f4]) rfl ?_
  refine ⟨_, _, rfl, tellsNew.low (below_new w _).size (tellsNew.move HT.out (fun b hb => ?_)), ?_⟩
  · have hb9 : w.heap.size + 1 ≤ b := by simpa using hb
    repeat rw [Below.heap_setCell _ _ _ b (by show b ≠ w.heap.size; omega)]
  · repeat (refine below_set ?_ (by omega))
    exact HB.out
theorem l1List_any (n : Nat) (A : Option Addr) (c : Nat) (w : World) : Calls Try.prog 136 #[.slice A n c] w (fun e w' => e = .returned (.agg #[.int .i64 3, .string ⟨#[]⟩, .int .i64 0, .slice none 0 0, .slice A n c]) ∧ Below w.heap.size w w') := by
  have k0 := blk_new w (.cells #[.int .i64 3, .string ⟨#[]⟩, .int .i64 0, .slice none 0 0, .slice A n c] 31)
  obtain ⟨q0, q1, q2, q3, q4⟩ := fm_cells k0
  have HB := Lib.hid (below_new w (.cells #[.int .i64 3, .string ⟨#[]⟩, .int .i64 0, .slice none 0 0, .slice A n c] 31))
  clear k0
  go_enter Try.func136, Try.ntmps136
  go_wp2_with fail
  refine bodyPost_ret (v := .agg #[.int .i64 3, .string ⟨#[]⟩, .int .i64 0, .slice none 0 0, .slice A n c]) (by simp [results, Try.results136, go_sem, q0, q1, q2, q3, q4]) rfl ?_
  refine ⟨rfl, ?_⟩
  exact HB.out
set_option maxHeartbeats 1000000 in
theorem specList_new (ks : List Fm) (A : Option Addr) (c : Nat) (w : World) (hr : kF.C w A ks.length ks) (hc : ks.length ≤ c) (ht : (lf ks).tot ≤ 1000000) : Calls Try.prog 65 #[.slice A ks.length c] w (RetT tellsNew w (orN (lf ks))) := by
  have HI := Lib.hid (lf_in hr hc)
  have HT0 := Lib.hid ht
  clear hr hc ht
  go_enter Try.func65, Try.ntmps65
  go_wp2_with fail
  refine (l1List_any ks.length A c _).mono ?_
  rintro e w1 ⟨rfl, hb⟩
  obtain ⟨k0, b0⟩ := one_new hb
  have K0 := Lib.hid k0
  have B0 := Lib.hid b0
  clear hb k0 b0
  go_wp2_with fail
  refine (specValid_any (lf ks) none 0 A c _ (HI.out.below (below_step B0.out (below_new _ _))) (by have := HT0.out; omega)).mono ?_
  rintro e w2 ⟨rfl, hb⟩
  obtain ⟨k1, b1⟩ := one_new hb
  have K1 := Lib.hid k1
  have KR := Lib.hid (blk_below K0.out b1)
  have B1 := Lib.hid (below_step B0.out b1)
  have HL1 := Lib.hid (blk_lt K0.out)
  clear hb k1 b1
  by_cases hx : FmOk (lf ks)
  · rw [← pB_yes hx]
    have HX := Lib.hid hx
    clear hx
    obtain ⟨p0, p1, p2, p3, p4⟩ := fm_cells K1.out
    go_wp2_with fail
    clear p0 p1 p2 p3 p4
    refine (l1Copy_any (lf ks) none 0 A c _ (HI.out.below B1.out) (by have := HT0.out; omega)).mono ?_
    rintro e w3 ⟨v3, v4, rfl, hT, hb2⟩
    obtain ⟨D3, e3, D4, e4, rfl, rfl⟩ := tellsNew.form hT
    obtain ⟨q0, q1, q2, q3, q4⟩ := fm_cells (blk_below KR.out hb2)
    obtain ⟨f0, f1, f2, f3, f4⟩ := fm_free (blk_below KR.out hb2)
    have HT := Lib.hid hT
    have HB := Lib.hid (below_step B1.out hb2)
    have HL := Lib.hid (show w.heap.size < w2.heap.size from blk_lt KR.out)
    clear hT hb2
    go_wp2_with fail
    refine bodyPost_ret (v := .tuple #[.agg #[.int .i64 (lf ks).f0, .string (lf ks).f1, .int .i64 (lf ks).f2, .slice D3 (lf ks).f3.length e3, .slice D4 (lf ks).f4.length e4], .bool true]) (by simp [results, Try.results65, go_sem, q0, q1, q2, q3, q4, f0, f1, f2, f3, f4]) rfl ?_
    rw [orN_yes HX.out]
    refine ⟨_, _, rfl, tellsNew.low B1.out.size (tellsNew.move HT.out (fun b hb => ?_)), ?_⟩
    · have := HL.out
      repeat rw [Below.heap_setCell _ _ _ b (by show b ≠ w.heap.size; omega)]
    · repeat (refine below_set ?_ (by omega))
      exact HB.out
  · rw [← pB_no hx]
    have HX := Lib.hid hx
    clear hx
    obtain ⟨q0, q1, q2, q3, q4⟩ := fm_cells KR.out
    obtain ⟨f0, f1, f2, f3, f4⟩ := fm_free KR.out
    have HB9 := Lib.hid B1.out
    go_wp2_with fail
    refine bodyPost_ret (v := .tuple #[.agg #[.int .i64 0, .string ⟨#[]⟩, .int .i64 0, .slice none 0 0, .slice none 0 0], .bool false]) (by simp [results, Try.results65, go_sem, q0, q1, q2, q3, q4, f0, f1, f2, f3, f4]) rfl ?_
    rw [orN_no HX.out]
    refine ⟨_, _, rfl, ⟨[], trz _, by simp, by simp⟩, ?_⟩
    repeat (refine below_set ?_ (by omega))
    exact HB9.out
theorem totL_le {b : Nat} : ∀ {l : List Fm}, (∀ y, y ∈ l → y.tot ≤ b) → totL l ≤ (b + 1) * l.length
  | [], _ => by simp [totL]
  | a :: l, h => by
    have h1 := h a List.mem_cons_self
    have h2 := totL_le (l := l) (fun y hy => h y (List.mem_cons_of_mem _ hy))
    simp only [totL, List.length_cons, Nat.mul_add]
    omega
theorem lf_tot {ks : List Fm} (h1 : ks.length ≤ 3) (h2 : ∀ y, y ∈ ks → y.tot ≤ 7000) : (lf ks).tot ≤ 30000 := by
  have h := totL_le h2
  have e : (lf ks).tot = 0 + 0 + totL ks := Fm.tot_eq _
  have h3 : 7001 * ks.length ≤ 7001 * 3 := Nat.mul_le_mul_left _ h1
  omega
theorem orN_tot (x : Fm) : (orN x).1.tot ≤ 20000 := by
  by_cases h : FmOk x
  · rw [orN_yes h]; exact fmOk_tot h
  · rw [orN_no h]; show zFm.tot ≤ 20000; rw [zFm_tot]; omega
/-- s tells whether the lists are as_ long as_ one another and equal up to place i. -/
structure SameTo (a b : List Fm) (i : Nat) (s : Bool) : Prop where
  t : s = true → a.length = b.length ∧ a.take i = b.take i
  f : s = false → a ≠ b
theorem SameTo.start {a b : List Fm} {s : Bool} (h : (a.length == b.length) = s) : SameTo a b 0 s := by
  subst h
  refine ⟨fun h => ⟨by simpa using h, by simp⟩, fun h e => ?_⟩
  subst e
  simp at h
theorem SameTo.len {a b : List Fm} {i : Nat} (h : SameTo a b i true) : a.length = b.length := (h.t rfl).1
theorem SameTo.yes {a b : List Fm} {i : Nat} (h : SameTo a b i true) (hi : a.length ≤ i) : a = b := by
  obtain ⟨h1, h2⟩ := h.t rfl
  rwa [List.take_of_length_le hi, List.take_of_length_le (by omega)] at h2
theorem SameTo.no {a b : List Fm} {i : Nat} (h : SameTo a b i false) : a ≠ b := h.f rfl
theorem SameTo.next {a b : List Fm} {i : Nat} (h : SameTo a b i true) (h1 : i < a.length) (h2 : i < b.length) {q : Bool} (hq : eqB a[i] b[i] = q) : SameTo a b (i + 1) q := by
  obtain ⟨e1, e2⟩ := h.t rfl
  refine ⟨fun hy => ⟨e1, ?_⟩, fun hy e => ?_⟩
  · rw [List.take_succ_eq_append_getElem h1, List.take_succ_eq_append_getElem h2, e2, eqB_iff.1 (hq.trans hy)]
  · subst e
    rw [eqB_self] at hq
    rw [← hq] at hy
    cases hy
theorem implList' {ks : List Fm} {z : Fm} {b : Bool} (hz : orN (lf ks) = (z, b)) (A : Option Addr) (c : Nat) (w : World) (hr : kF.C w A ks.length ks) (hc : ks.length ≤ c) (ht : (lf ks).tot ≤ 1000000) : Calls Try.prog 64 #[.slice A ks.length c] w (GetFV w z (.bool b)) := by
  have := (implList_new ks A c w hr hc ht).mono (fun e w' h => h.getFV)
  rwa [hz] at this
theorem specList' {ks : List Fm} {z : Fm} {b : Bool} (hz : orN (lf ks) = (z, b)) (A : Option Addr) (c : Nat) (w : World) (hr : kF.C w A ks.length ks) (hc : ks.length ≤ c) (ht : (lf ks).tot ≤ 1000000) : Calls Try.prog 65 #[.slice A ks.length c] w (GetFV w z (.bool b)) := by
  have := (specList_new ks A c w hr hc ht).mono (fun e w' h => h.getFV)
  rwa [hz] at this
end Go.Proofs.Ytlghpblifbaciaa
end
section
namespace Go.Proofs.Ytlghpblifbaciaa
open Go.RowKit Go.Proofs.YtlghpblifbaciaaW.PrintWords Go.Proofs.YtlghpblifbaciaaW.PrintLast Go.Proofs.YtlghpblifbaciaaW.PrintMore
set_option linter.unusedVariables false
set_option linter.unusedSimpArgs false
theorem NewL.keep {lo g : Nat} {w W : World} {ks : List Fm} {v : Value} (h : NewL lo w ks v) (hk : KeepBut w W g none) (hg : g < lo) : NewL lo W ks v := by
  obtain ⟨inner, fp, ho, ht, hn, hge⟩ := h
  simp only [List.mem_append] at hge
  refine ⟨inner, fp, own_move ho (fun b hb => ?_), ht.move ks (fun b hb => ?_), hn, by simpa only [List.mem_append] using hge⟩
  · have := hge b (.inl (obs_mem.2 hb))
    exact hk.2 b (own_lt ho b hb) (by omega) (by simp)
  · have := hge b (.inr hb)
    exact hk.2 b (ht.lt ks b hb) (by omega) (by simp)
theorem NewL.later {lo : Nat} {w W : World} {ks : List Fm} {v : Value} (h : NewL lo w ks v) (hb : Below w.heap.size w W) : NewL lo W ks v := by
  obtain ⟨inner, fp, ho, ht, hn, hge⟩ := h
  exact ⟨inner, fp, own_move ho (fun b hb2 => hb.block b (own_lt ho b hb2)), ht.later hb, hn, hge⟩
theorem NewL.C {lo : Nat} {w : World} {ks : List Fm} {v : Value} (h : NewL lo w ks v) : ∃ A c, v = .slice A ks.length c ∧ ks.length ≤ c ∧ kF.C w A ks.length ks := by
  obtain ⟨inner, fp, ho, ht, _⟩ := h
  exact ht.C ho
theorem NewL.nil {lo : Nat} {w : World} {b : Nat} (hb : w.heap[b]? = some (.cells #[] 31 (0, 0))) (hl : lo ≤ b) : NewL lo w [] (.slice (some ⟨b, 0, none⟩) 0 0) :=
  ⟨[], [], ⟨rfl, .inr ⟨b, 0, #[], rfl, Nat.zero_le _, hb, Nat.le_refl _, Nat.zero_le _, rfl, rfl⟩⟩, .nil, by simp [obs, Value.ownBlock], fun k hk => by simp [obs, Value.ownBlock] at hk; omega⟩
/-- Another form is appended. -/
theorem NewL.more {lo g : Nat} {w0 w : World} {ks : List Fm} {v : Value} (h0 : NewL lo w0 ks v) (hk : KeepBut w0 w g none) (hg0 : g < lo) (hlo : lo ≤ w0.heap.size) {y : Fm} {u3 u4 : Value} (hn : NewF w0.heap.size w y u3 u4) :
    ∃ inner, w.ownsRow lo 31 5 v ks.length inner ∧ ∀ (v' : Value) (W1 : World), W1.ownsRow 0 31 5 v' (ks.length + 1) (inner ++ [.int .i64 y.f0, .string y.f1, .int .i64 y.f2, u3, u4]) → w.grownBy W1 v.ownBlock → (v'.ownBlock = v.ownBlock ∨ ∃ b, v'.ownBlock = some b ∧ w.heap.size ≤ b) → NewL lo W1 (ks ++ [y]) v' := by
  obtain ⟨inner, fp, ho0, ht0, hnd, hge⟩ := h0
  simp only [List.nodup_append, List.mem_append] at hnd hge
  have hB : ∀ b, b ∈ obs v → b < w0.heap.size := fun b hb => own_lt ho0 b (obs_mem.1 hb)
  have hB3 : ∀ b, b ∈ fp → b < w0.heap.size := ht0.lt ks
  have ho : w.ownsRow 0 31 5 v ks.length inner := own_move ho0 (fun b hb => by have := hge b (.inl (obs_mem.2 hb)); exact hk.2 b (own_lt ho0 b hb) (by omega) (by simp))
  have ht : TrL w ks inner fp := ht0.move ks (fun b hb => by have := hge b (.inr hb); exact hk.2 b (hB3 b hb) (by omega) (by simp))
  have hlw : lo ≤ w.heap.size := Nat.le_trans hlo hk.1
  obtain ⟨fk, hy, hndk, hgek⟩ := hn
  obtain ⟨n1, n2, n12⟩ := hnd
  refine ⟨inner, own_base_ ho (fun b hb => hge b (.inl (obs_mem.2 hb))), fun v' W1 ho1 hg hat => ?_⟩
  have hobs : ∀ b, b ∈ obs v' → b ∈ obs v ∨ w.heap.size ≤ b := by
    intro b hb
    rcases hat with e | ⟨c, e, hc⟩
    · exact .inl (obs_mem.2 (e ▸ obs_mem.1 hb))
    · have := obs_mem.1 hb
      rw [e] at this
      cases this
      exact .inr hc
  have hm1 : ∀ b, b ∈ fp → W1.heap[b]? = w.heap[b]? := fun b hb => hg.block b (ht.lt ks b hb) (fun he => n12 b (obs_mem.2 he.symm) b hb rfl)
  have hm2 : ∀ b, b ∈ fk → W1.heap[b]? = w.heap[b]? := fun b hb => hg.block b (hy.lt y b hb) (fun he => by have := hB b (obs_mem.2 he.symm); have := hgek b hb; omega)
  refine ⟨_, fp ++ fk, by rw [List.length_append]; exact ho1, (ht.move ks hm1).append (TrL.one (hy.move y hm2)), ?_, ?_⟩
  · simp only [List.nodup_append, List.mem_append]
    refine ⟨?_, ⟨n2, hndk, fun a ha b hb e => ?_⟩, fun a ha b hb e => ?_⟩
    · unfold obs
      cases v'.ownBlock <;> simp
    · have := hB3 a ha; have := hgek b hb; omega
    · subst e
      rcases hobs a ha with h1 | h1
      · rcases hb with hb | hb
        · exact n12 a h1 a hb rfl
        · have := hB a h1; have := hgek a hb; omega
      · rcases hb with hb | hb
        · have := ht.lt ks a hb; omega
        · have := hy.lt y a hb; omega
  · intro b hb
    simp only [List.mem_append] at hb
    rcases hb with hb | hb | hb
    · rcases hobs b hb with h1 | h1
      · exact hge b (.inl h1)
      · omega
    · exact hge b (.inr hb)
    · have := hgek b hb; omega
def StepOk (s : List Int) (p : Nat) (y : Fm) (q : Nat) : Prop := ∃ a qa b qb, SomeOk s 2 p a qa ∧ DressOk s a qa b qb ∧ MutOk s b qb y q
theorem list_ex {s : List Int} (hs : Bts s) : ∀ n p : Nat, p + 10000 * n ≤ 500000 → ∃ (ys : List Fm) (ps : Nat → Nat), ys.length = n ∧ ps 0 = p ∧ (∀ y, y ∈ ys → y.tot ≤ 7000) ∧ ∀ (i : Nat) (hi : i < ys.length), StepOk s (ps i) ys[i] (ps (i + 1))
  | 0, p, _ => ⟨[], fun _ => p, rfl, rfl, ⟨(by intro y hy; cases hy), (by intro i hi; exact absurd hi (by simp))⟩⟩
  | n + 1, p, hp => by
    have hB := Bn_le (show 2 ≤ 4 by omega)
    obtain ⟨x1, q1, a1, b1, c1⟩ := some_ex hs 2 (by omega) p (by omega)
    have s1 := sizes_totL x1
    obtain ⟨x2, q2, a2, b2, f2, _, c2⟩ := dress_ex hs x1 (by omega) q1 (by omega)
    obtain ⟨x3, q3, a3, b3, f3, c3⟩ := mutate_ex hs x2 (by omega) q2 (by omega)
    obtain ⟨ys, ps, e1, e2, e3, e4⟩ := list_ex hs n q3 (by omega)
    refine ⟨x3 :: ys, fun i => match i with | 0 => p | i + 1 => ps i, by simp [e1], rfl, ?_, ?_⟩
    · intro y hy
      rcases List.mem_cons.1 hy with rfl | hy
      · omega
      · exact e3 y hy
    · intro i hi
      cases i with
      | zero => exact ⟨x1, q1, x2, q2, c1, c2, by simpa [e2] using c3⟩
      | succ i => simpa using e4 i (by simpa using hi)
set_option maxHeartbeats 4000000 in
set_option maxRecDepth 100000 in
theorem drawList (l : List Int) (hl : ∀ z, z ∈ l → 0 ≤ z ∧ z < 256) : ∃ (ys : List Fm), ys.length ≤ 3 ∧ (∀ y, y ∈ ys → y.tot ≤ 7000) ∧ ∀ (A : Option Addr) (c : Nat) (w : World), (Kd.int .u8).C w A l.length l → l.length ≤ c → Calls Try.prog 63 #[.slice A l.length c] w (RetL w ys) := by
  obtain ⟨s, hs, hopen⟩ := open_at l hl
  obtain ⟨v, hv, e1⟩ := ev_pick hs 0 (by omega) 4 (by omega)
  obtain ⟨n, rfl⟩ := Int.eq_ofNat_of_zero_le (hv (by omega)).1
  have hn : n < 4 := by have := (hv (by omega)).2; omega
  obtain ⟨ys, ps, rfl, hp0, hyt, hstep⟩ := list_ex hs n 1 (by omega)
  refine ⟨ys, by omega, hyt, fun A c w hr hc => ?_⟩
  have HO := Lib.hid hopen
  have HE1 := Lib.hid e1
  have HS := Lib.hid hstep
  have HP0 := Lib.hid hp0
  clear hopen e1 hstep hs hp0 hyt hv
  go_enter Try.func63, Try.ntmps63
  go_wp2_with fail
  refine (HO.out A c w _ (Below.refl _ _) hr hc).mono ?_
  rintro e w2 ⟨g, rfl, hi, hb, hb2⟩
  have HD := Lib.hid (Dr.new hi hb)
  clear hi hb hb2
  go_wp2_with fail
  refine (pick_at HE1.out g w _ (HD.out.later (below_new _ _)).is (HD.out.later (below_new _ _)).b).mono ?_
  rintro e w3 ⟨rfl, hi, hb, hk⟩
  have hk3 : w3.heap[w2.heap.size]? = some (.cells #[] 31 (0, 0)) := hk.blk (blk_new w2 _) (by have := HD.out.lt; omega) (by simp)
  have HN := Lib.hid (NewL.nil (lo := w2.heap.size) hk3 (Nat.le_refl _))
  have HD3 := Lib.hid ((HD.out.later (below_new _ (.cells #[] 31))).call hi hb hk)
  have HG := Lib.hid (show g < w2.heap.size from HD.out.lt)
  have HW := Lib.hid (show w.heap.size ≤ w2.heap.size from HD.out.b.size)
  clear hi hb hk hk3 HD
  go_wp2_with fail
  go_loopg [4, 5] ys.length (fun kq v4 v5 w' => ∃ j : Nat, j ≤ ys.length ∧ ys.length - j ≤ kq ∧ v5 = .int .i64 ((ys.length - j : Nat) : Int) ∧ Aside0 (NewL w2.heap.size w' (ys.take j) v4) ∧ Aside0 (Dr w w2 g s (ps j : Int) w'))
  case atStart => exact ⟨0, Nat.zero_le _, by omega, rfl, ⟨HN.out⟩, ⟨by rw [HP0.out]; exact HD3.out⟩⟩
  case round =>
    obtain ⟨j, hj, hg, rfl, HL, HR⟩ := hrel
    clear HN HD3
    by_cases hlt : j < ys.length
    · obtain ⟨m, hm⟩ : ∃ m, ys.length - j = m + 1 := ⟨ys.length - j - 1, by omega⟩
      rw [hm]
      obtain ⟨a, qa, b, qb, k1, k2, k3⟩ := HS.out j hlt
      have HM := Lib.hid hm
      have K1 := Lib.hid k1
      have K2 := Lib.hid k2
      have K3 := Lib.hid k3
      clear k1 k2 k3 hm
      go_wp2_with fail
      refine (K1.out g w wr HR.out.is HR.out.b).mono ?_
      rintro e w4 ⟨A3, c3, A4, c4, rfl, hf, hi, hb, hk⟩
      have HF := Lib.hid hf.now
      have HK := Lib.hid hk
      have HR4 := Lib.hid (HR.out.call hi hb hk)
      clear hi hb hk hf
      go_wp2_with fail
      refine (K2.out g A3 c3 A4 c4 w w4 HR4.out.is HR4.out.b HF.out).mono ?_
      intro e w5 hp
      obtain ⟨B3, d3, B4, d4, rfl, hf, hi, hb, hk⟩ := hp.get
      have HF5 := Lib.hid hf.now
      have HK5 := Lib.hid (HK.out.trans hk (.inl rfl))
      have HR5 := Lib.hid (HR4.out.call hi hb hk)
      clear hi hb hk hf hp HK HF HR4
      go_wp2_with fail
      refine (K3.out g B3 d3 B4 d4 w w5 HR5.out.is HR5.out.b HF5.out).mono ?_
      rintro e w6 ⟨u3, u4_, rfl, hn, hi, hb, hk⟩
      obtain ⟨J3, q3, J4, q4, rfl, rfl, -⟩ := NewF.toS hn
      have HK6 := Lib.hid (HK5.out.trans hk (.inl rfl))
      have HR6 := Lib.hid (HR5.out.call hi hb hk)
      obtain ⟨fk, h1, h2, h3⟩ := hn
      obtain ⟨inner, hin, hmore⟩ := HL.out.more HK6.out HG.out HR.out.size (show NewF wr.heap.size w6 ys[j] (.slice J3 ys[j].f3.length q3) (.slice J4 ys[j].f4.length q4) from ⟨fk, h1, h2, fun b hb2 => Nat.le_trans HK5.out.1 (h3 b hb2)⟩)
      have HIN := Lib.hid hin
      have HMO := Lib.hid hmore
      have hlen : (ys.take j).length = j := by simp; omega
      clear hi hb hk h1 h2 h3 hin hmore HK5 HF5 HR5
      have hb0 : (ys.take j).length + 1 ≤ 4 := by omega
      have HBB := Lib.hid HR6.out.b
      have HBS := Lib.hid HR6.out.b.size
      have HO4 := Lib.hid (own_weaken HIN.out HW.out)
      go_wp2_with ((with_reducible refine gate_builtin (b := .append) (xs := #[.tmp 15, .tmp 22]) rfl ?_); at_builtin; go_must (refine print_append_cells (w0 := w) w.heap.size rfl (.tmp 15) (.tmp 22) 29 31 (.agg #[.int .i64 0, .string ⟨#[]⟩, .int .i64 0, .slice none 0 0, .slice none 0 0]) 5 80 rfl Try.underlying29 infoF rfl (by decide) (by decide) u4 (ys.take j).length inner [.int .i64 ys[j].f0, .string ys[j].f1, .int .i64 ys[j].f2, .slice J3 ys[j].f3.length q3, .slice J4 ys[j].f4.length q4] rfl rfl rfl ?aE HO4.out HBB.out HBS.out ?aL ?_; (case aE => simp [Value.oneCell']); (case aL => omega); intro v' w8 ho hb8 hg8 hat8; have HN8 := Lib.hid (HMO.out v' w8 (own_weaken ho (Nat.zero_le _)) hg8 hat8); have HR8 := Lib.hid (HR6.out.grown hg8 (fun k hk => own_base HIN.out k hk)); clear ho hb8 hg8 hat8))
      go_roundg (ys.length - (j + 1))
      case measure => omega
      case rel =>
        have hm2 : ys.length - (j + 1) = m := by have := HM.out; omega
        have hm3 : m ≤ 3 := by have := HM.out; omega
        exact ⟨j + 1, by omega, Nat.le_refl _, by (rw [hm2, IntWalk.wrap64_in _ (by omega)]), ⟨by have := HN8.out; rwa [List.take_append_getElem] at this⟩, ⟨HR8.out⟩⟩
    · obtain rfl : j = ys.length := by omega
      rw [show ys.length - ys.length = 0 by omega]
      go_wp2_with fail
      go_ret
      refine ⟨_, rfl, ?_, HR.out.b⟩
      have := HL.out
      rw [List.take_length] at this
      obtain ⟨inner, fp, h1, h2, h3, h4⟩ := this
      exact ⟨inner, fp, h1, h2, h3, fun b hb => Nat.le_trans HW.out (h4 b hb)⟩
end Go.Proofs.Ytlghpblifbaciaa
end
section
-- PRINTED WORDS (module Derived/Print/Sized.lean): go-gate-2's, for the rows of laws over slices: an AI agent of Go's test side, Tue Nov 17 2026; no person has read it. Lean checks it.
namespace Go.Proofs.YtlghpblifbaciaaW.PrintWords
open Go.ChangeShapes Go.WideShapes
/-- A row's slice of whole numbers is no longer than its weight allows. -/
theorem sized_ints {H : Type} {enc : TypeId × Value → H} {P : Program} {W : World} {base : Nat} {spare : Nat → Bool} {held : Bool} {t e : TypeId} {k : IntKind} {a : Option Addr} {len cap : Nat} {d : DataW H} {ps : List MemPlace} {ts : List TypeId} {ds : List (DataW H)} {j : Nat}
    (hsz : (DataW.weightsEach P ts ds).all (· ≤ reachBytes) = true) (ht : ts[j]? = some t) (hd : ds[j]? = some d) (hu : P.underlying t = some (.slice e)) (he : P.underlying e = some (.int k)) (hc : P.cellsOf e = 1) {B : Nat} (hB : P.bytesOf e = B)
    (h : DataW.Trod enc P W base spare held t (.slice a len cap) d ps) : len * B ≤ 140737488351232 := by
  obtain ⟨fuel, hf⟩ := h
  rcases open_ints hu he hc hf with ⟨hcs, _⟩ | ⟨x, l, c, zs, hcs, _, hl, _, hz, hx, _, _⟩
  · simp [Value.cells] at hcs
    obtain ⟨rfl, rfl, rfl⟩ := hcs
    simp
  · simp [Value.cells] at hcs
    obtain ⟨rfl, rfl, rfl⟩ := hcs
    obtain ⟨hx, _⟩ := Prod.mk.inj hx
    subst hx
    have z := sized_slice hsz ht hd hu
    rw [hB] at z
    have hl2 : len ≤ zs.length := by
      rw [hz]
      split
      · exact hl
      · exact Nat.le_refl _
    have h1 : (lits (H := H) k (zs.take len)).length + (lits (H := H) k (zs.drop len)).length = zs.length := by
      simp [lits]
      omega
    rw [h1] at z
    exact Nat.le_trans (Nat.mul_le_mul_right _ hl2) z
end Go.Proofs.YtlghpblifbaciaaW.PrintWords
end
