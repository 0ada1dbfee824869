/- Words for the laws' proofs (part 3): contracts of functions, and plain lemmas. -/
import Derived.ChangeSlices
import Derived.Ground.Names2Prog
import Derived.Laws.IdiomStrings
import Derived.Lib.ItoaNum
import Derived.Lib.Join
import Derived.Lib.SliceRun
import Derived.Shelf.Slices.Empties
import Derived.Shelf.Slices.SearchI
import Derived.Shelf.Spec.SlicesInsertGrow
import Derived.SizedLaws
import Derived.Test.YteeepenncddnjaaDoorKe1
import Derived.Test.YteeepenncddnjaaDoorKe2
section
namespace Go.Proofs.YteeepenncddnjaaDoor.Q
open Go.RowKit Go.Proofs.YteeepenncddnjaaDoorW.PrintWords Go.Proofs.YteeepenncddnjaaDoorW.PrintLast Go.Proofs.YteeepenncddnjaaDoorW.PrintMore
attribute [local go_sem] max2_int min2_int max_two min_two max_three min_three max_four min_four   -- for this text's walks alone
set_option linter.unusedVariables false
set_option linter.unusedSimpArgs false

mutual
def spec_l1Some.j0 : Nat → Int → Bool → List Int → Int → Option (Int × ByteArray × Int × List Int × (List (S26)) × Int)
  | 0, _, _, _, _ => none
  | k + 1, x1, x13, x1000, x1001 => if x13 = true then ((spec_l15Rd_pick.f k x1000 x1001 4).bind fun bt117 => (if bt117.1 = 0 then ((spec_l15Rd_num.f k x1000 bt117.2 (([0, 1, 2, 7, 42, 999] : List Int))).bind fun bt122 => (some (2, (⟨#[]⟩ : ByteArray), bt122.1, ([] : List Int), ([] : List (S26)), bt122.2))) else ((spec_l15Rd_of.f k x1000 bt117.2 (([(⟨#[97]⟩ : ByteArray), (⟨#[98]⟩ : ByteArray), (⟨#[120]⟩ : ByteArray), (⟨#[121]⟩ : ByteArray), (⟨#[102]⟩ : ByteArray), (⟨#[105, 102]⟩ : ByteArray), (⟨#[108, 101, 116]⟩ : ByteArray), (⟨#[43]⟩ : ByteArray)] : List ByteArray))).bind fun bt127 => ((spec_l1Name.f bt127.1).bind fun bt129 => (some (bt129.1, bt129.2.1, bt129.2.2.1, bt129.2.2.2.1, bt129.2.2.2.2, bt127.2)))))) else ((spec_l15Rd_pick.f k x1000 x1001 4).bind fun bt139 => (spec_l1Some.l0 k x1 bt139.1 x1000 bt139.2 3 (⟨#[]⟩ : ByteArray) 0 ([] : List (S26))))
def spec_l1Some.l0 : Nat → Int → Int → List Int → Int → Int → ByteArray → Int → List (S26) → Option (Int × ByteArray × Int × List Int × (List (S26)) × Int)
  | 0, _, _, _, _, _, _, _, _ => none
  | k + 1, x1, x6, x1000, x1001, x139000, x139001, x139002, x139004 => if x6 > 0 then ((spec_l1Some.f k x1000 x1001 (wrap64 (x1 - 1))).bind fun bt141 => (if x139004.length < 1759218604441 then (spec_l1Some.l0 k x1 (wrap64 (x6 - 1)) x1000 bt141.2.2.2.2.2 x139000 x139001 x139002 (x139004 ++ [(⟨bt141.1, bt141.2.1, bt141.2.2.1, bt141.2.2.2.1, bt141.2.2.2.2.1⟩ : S26)])) else (none))) else (some (x139000, x139001, x139002, ([] : List Int), x139004, x1001))
def spec_l1Some.f : Nat → List Int → Int → Int → Option (Int × ByteArray × Int × List Int × (List (S26)) × Int)
  | 0, _, _, _ => none
  | k + 1, s0_0, s0_1, a1 => if a1 = 0 then (spec_l1Some.j0 k a1 true s0_0 s0_1) else ((spec_l15Rd_pick.f k s0_0 s0_1 3).bind fun bt115 => (spec_l1Some.j0 k a1 (bt115.1 == 0) s0_0 bt115.2))
end
theorem spec_l1Some.mono_l : ∀ k, (∀ y0 y1 y2, LeO (spec_l1Some.f k y0 y1 y2) (spec_l1Some.f (k + 1) y0 y1 y2)) ∧ (∀ y0 y1 y2 y3, LeO (spec_l1Some.j0 k y0 y1 y2 y3) (spec_l1Some.j0 (k + 1) y0 y1 y2 y3)) ∧ (∀ y0 y1 y2 y3 y4 y5 y6 y7, LeO (spec_l1Some.l0 k y0 y1 y2 y3 y4 y5 y6 y7) (spec_l1Some.l0 (k + 1) y0 y1 y2 y3 y4 y5 y6 y7))
  | 0 => ⟨fun _ _ _ r h => by simp [spec_l1Some.f] at h, fun _ _ _ _ r h => by simp [spec_l1Some.j0] at h, fun _ _ _ _ _ _ _ _ r h => by simp [spec_l1Some.l0] at h⟩
  | k + 1 => by
    obtain ⟨ih0, ih1, ih2⟩ := spec_l1Some.mono_l k
    refine ⟨?_, ?_, ?_⟩
    · intro y0 y1 y2
      unfold spec_l1Some.f
      repeat' first
      | (with_reducible exact ih0 _ _ _)
      | (with_reducible exact ih1 _ _ _ _)
      | (with_reducible exact ih2 _ _ _ _ _ _ _ _)
      | (with_reducible exact spec_l15Rd_num.mono _ _ _ _)
      | (with_reducible exact spec_l15Rd_of.mono _ _ _ _)
      | (with_reducible exact spec_l15Rd_pick.mono _ _ _ _)
      | (with_reducible exact LeO.refl _)
      | (with_reducible exact LeO.none _)
      | (with_reducible refine LeO.ite ?_ ?_)
      | (with_reducible refine LeO.bind ?_ (fun _ => ?_))
      | exact ih0 _ _ _
      | exact ih1 _ _ _ _
      | exact ih2 _ _ _ _ _ _ _ _
      | exact spec_l15Rd_num.mono _ _ _ _
      | exact spec_l15Rd_of.mono _ _ _ _
      | exact spec_l15Rd_pick.mono _ _ _ _
      | exact LeO.none _
      | refine LeO.ite ?_ ?_
      | refine LeO.bind ?_ (fun _ => ?_)
    · intro y0 y1 y2 y3
      unfold spec_l1Some.j0
      repeat' first
      | (with_reducible exact ih0 _ _ _)
      | (with_reducible exact ih1 _ _ _ _)
      | (with_reducible exact ih2 _ _ _ _ _ _ _ _)
      | (with_reducible exact spec_l15Rd_num.mono _ _ _ _)
      | (with_reducible exact spec_l15Rd_of.mono _ _ _ _)
      | (with_reducible exact spec_l15Rd_pick.mono _ _ _ _)
      | (with_reducible exact LeO.refl _)
      | (with_reducible exact LeO.none _)
      | (with_reducible refine LeO.ite ?_ ?_)
      | (with_reducible refine LeO.bind ?_ (fun _ => ?_))
      | exact ih0 _ _ _
      | exact ih1 _ _ _ _
      | exact ih2 _ _ _ _ _ _ _ _
      | exact spec_l15Rd_num.mono _ _ _ _
      | exact spec_l15Rd_of.mono _ _ _ _
      | exact spec_l15Rd_pick.mono _ _ _ _
      | exact LeO.none _
      | refine LeO.ite ?_ ?_
      | refine LeO.bind ?_ (fun _ => ?_)
    · intro y0 y1 y2 y3 y4 y5 y6 y7
      unfold spec_l1Some.l0
      repeat' first
      | (with_reducible exact ih0 _ _ _)
      | (with_reducible exact ih1 _ _ _ _)
      | (with_reducible exact ih2 _ _ _ _ _ _ _ _)
      | (with_reducible exact spec_l15Rd_num.mono _ _ _ _)
      | (with_reducible exact spec_l15Rd_of.mono _ _ _ _)
      | (with_reducible exact spec_l15Rd_pick.mono _ _ _ _)
      | (with_reducible exact LeO.refl _)
      | (with_reducible exact LeO.none _)
      | (with_reducible refine LeO.ite ?_ ?_)
      | (with_reducible refine LeO.bind ?_ (fun _ => ?_))
      | exact ih0 _ _ _
      | exact ih1 _ _ _ _
      | exact ih2 _ _ _ _ _ _ _ _
      | exact spec_l15Rd_num.mono _ _ _ _
      | exact spec_l15Rd_of.mono _ _ _ _
      | exact spec_l15Rd_pick.mono _ _ _ _
      | exact LeO.none _
      | refine LeO.ite ?_ ?_
      | refine LeO.bind ?_ (fun _ => ?_)
theorem spec_l1Some.mono : ∀ a0 a1 a2 k, LeO (spec_l1Some.f k a0 a1 a2) (spec_l1Some.f (k + 1) a0 a1 a2) := by
  intro a0 a1 a2 k
  obtain ⟨ih0, ih1, ih2⟩ := spec_l1Some.mono_l k
  exact ih0 a0 a1 a2
def spec_l1Some.T9 : Bool × List (List Nat × List Nat) := (true, [([], []), ([0], [0]), ([], []), ([], []), ([3], [3]), ([2, 4], [2, 4]), ([5], [5]), ([1, 6, 5], [1, 6]), ([0, 1, 2, 3, 4, 5, 6, 7], []), ([8, 7, 7, 0, 1, 2, 3, 4, 5, 6, 7], [7, 8])])
def spec_l1Some.B9 : List Nat := [0, 1, 0, 0, 8, 28, 60, 127, 255, 511]
theorem spec_l1Some.tab9 : rtab .any (opsOf Tryd.f30 9) = spec_l1Some.T9 := by kernel_rfl
theorem spec_l1Some.bits9 : waitsOk spec_l1Some.T9.2 spec_l1Some.B9 = true := by kernel_rfl
set_option maxHeartbeats 8000000 in
set_option maxRecDepth 100000 in
theorem spec_l1Some.calls (k : Nat) : ∀ (g : Nat) (s0_0 : List Int) (s0_1 : Int) (a1 : Int) (r1 : Int) (r2 : ByteArray) (r3 : Int) (r4 : List Int) (r5 : List (S26)) (r6 : Int) (w0 w : World) (hI : IsS78 w0 w g s0_0 s0_1) (hB : Below w0.heap.size w0 w) (h : spec_l1Some.f k s0_0 s0_1 a1 = some (r1, r2, r3, r4, r5, r6)),
    Calls Tryd.prog 30 #[.pointer (some ⟨g, 0, none⟩), .int .i64 a1] w fun e w' => ∃ v3_ v4_ : Value, e = .returned (.agg #[.int .i64 r1, .string r2, .int .i64 r3, v3_, v4_]) ∧ Kd.R (Kd.int .i64) 3 w' w.heap.size (fun _ => True) v3_ r4 ∧ Kd.R k26 26 w' w.heap.size (fun k_ => some k_ ≠ (v3_ : Value).ownBlock) v4_ r5 ∧ IsS78 w0 w' g s0_0 r6 ∧ Below w0.heap.size w0 w' ∧ KeepBut w w' g none := by
  induction k using Nat.strongRecOn with
  | _ k ih =>
  intro g s0_0 s0_1 a1 r1 r2 r3 r4 r5 r6 w0 w hI hB h
  cases k with
  | zero => exact absurd h (by simp [spec_l1Some.f])
  | succ k =>
  simp only [spec_l1Some.f] at h
  have hu26 := Tryd.underlying26
  have HI0 := Aside0.mk hI
  have HK := Aside0.mk (KeepBut.refl w g none)
  have HL := Aside0.mk hB.size
  clear hI
  have HW0 := Aside0.mk hB.size
  have HB := Aside0.mk hB
  clear hB
  have H : (if a1 = 0 then (spec_l1Some.j0 k a1 true s0_0 s0_1) else ((spec_l15Rd_pick.f k s0_0 s0_1 3).bind fun bt115 => (spec_l1Some.j0 k a1 (bt115.1 == 0) s0_0 bt115.2))) = some (r1, r2, r3, r4, r5, r6) := h
  clear h
  have HC3 := Aside0.mk H
  clear H
  go_enter Tryd.func30, Tryd.ntmps30
  go_upto_region 1 with (first | ((with_reducible refine gate_dst (N := 4) rfl ?_); refine box_event ?hg (N := 4) ?hd (cs := #[.int .i64 0, .string (⟨#[]⟩ : ByteArray), .int .i64 0, .slice none 0 0, .slice none 0 0]) (t := 26) ?hr ?_; (case hd => rfl); (case hg => rfl); (case hr => first | (go_simp; done) | (go_simp; rfl)); intro gb114 hg w4 hbox hb; have n0_ := Aside0.mk (IsS78.below (by repeat (first | (with_reducible first | exact HI0.out | apply IsS78.alloc | apply IsS78.drewN | apply IsS78.drew | apply IsS78.set_1) | exact HI0.out)) hb); have n1_ := Aside0.mk (KeepBut.trans (by repeat (first | (with_reducible first | exact HK.out | apply KeepBut.set_ | apply keep_drewN | apply keep_drew | apply keep_alloc) | exact HK.out)) (KeepBut.of_below hb g none) (.inl rfl)); have n2_ := Aside0.mk (below_step (by repeat (first | (with_reducible first | exact HB.out | apply below_alloc | apply pw_below_drewN | apply below_drew1 | refine below_set ?_ (IsS78.ge HI0.out)) | exact HB.out)) hb); have n3_ := Aside0.mk (hbox); have n4_ := Aside0.mk ((by rw [hg]; exact (keep_size (w := w) (g := g) (row := none) (by repeat (first | (with_reducible first | exact HK.out | apply KeepBut.set_ | apply keep_drewN | apply keep_drew | apply keep_alloc) | exact HK.out))) : w.heap.size ≤ gb114)); have n5_ := Aside0.mk ((Nat.le_trans HW0.out (by rw [hg]; exact (keep_size (w := w) (g := g) (row := none) (by repeat (first | (with_reducible first | exact HK.out | apply KeepBut.set_ | apply keep_drewN | apply keep_drew | apply keep_alloc) | exact HK.out))) : w.heap.size ≤ gb114) : w0.heap.size ≤ gb114)); have n6_ := Aside0.mk ((by rw [hg]; exact Nat.ne_of_lt (IsS78.lt (show IsS78 w0 _ g s0_0 s0_1 from by repeat (first | (with_reducible first | exact HI0.out | apply IsS78.alloc | apply IsS78.drewN | apply IsS78.drew | apply IsS78.set_1) | exact HI0.out))) : g ≠ gb114)); have n7_ := Aside0.mk ((by rw [hg]; exact Nat.ne_of_gt (IsS78.lt (show IsS78 w0 _ g s0_0 s0_1 from by repeat (first | (with_reducible first | exact HI0.out | apply IsS78.alloc | apply IsS78.drewN | apply IsS78.drew | apply IsS78.set_1) | exact HI0.out))) : gb114 ≠ g)); clear HI0; clear HK; clear HB; have HI0 := n0_; have HK := n1_; have HB := n2_; have BK114 := n3_; have GW114 := n4_; have GE114 := n5_; have NB0_114 := n6_; have NB114_0 := n7_; clear n0_ n1_ n2_ n3_ n4_ n5_ n6_ n7_; clear hb hbox hg))
  (try simp only [Act.put, List.setIfInBounds_toArray, List.set_cons_zero, List.set_cons_succ])
  go_cut [13] (fun v13 wc => ∃ (kq : Nat) (x13_2 : Bool) (x1001_2 : Int), v13 = .bool x13_2 ∧ Aside0 (spec_l1Some.j0 kq a1 x13_2 s0_0 x1001_2 = some (r1, r2, r3, r4, r5, r6)) ∧ Aside0 (kq ≤ k) ∧ Aside0 (wc.heap[gb114]? = some (.cells #[.int .i64 0, .string (⟨#[]⟩ : ByteArray), .int .i64 0, (.slice none 0 0), (.slice none 0 0)] 26 (0, 0))) ∧ Aside0 (IsS78 w0 wc g s0_0 x1001_2) ∧ Aside0 (KeepBut w wc g none) ∧ Aside0 (Below w0.heap.size w0 wc))
  case first =>
    have H := HC3.out
    clear HC3
    by_cases c5 : a1 = 0
    · rw [if_pos c5] at H
      have c5b0 : (a1 == 0) = true := beq_iff_eq.mpr c5
      have c5b1 : (a1 != 0) = false := bne_eq_false_iff_eq.mpr c5
      clear c5
      (first | rw [c5b0] | (simp only [i64_w, i32_w]; rw [c5b0]) | skip)
      have H' := Aside0.mk H
      clear H
      go_wp2
      go_meet
      case rel => exact ⟨_, (true), (s0_1), (by first | rfl | (simp; done) | (simp [*]; done)), H', ⟨by first | omega | exact Nat.le_refl _⟩, ⟨by (with_reducible repeat (first | refine blk_drewN ?_ _ | refine blk_drew ?_ | refine blk_alloc ?_ _)); exact BK114.out⟩, ⟨by repeat (first | (with_reducible first | exact HI0.out | apply IsS78.alloc | apply IsS78.drewN | apply IsS78.drew | apply IsS78.set_1 | refine IsS78.far ?_ NB0_114.out _) | exact HI0.out)⟩, ⟨by repeat (first | (with_reducible first | exact HK.out | apply KeepBut.set_ | apply keep_drewN | apply keep_drew | apply keep_alloc | refine keep_far ?_ GW114.out _) | exact HK.out)⟩, ⟨by repeat (first | (with_reducible first | exact HB.out | apply below_alloc | apply pw_below_drewN | apply below_drew1 | refine below_set ?_ (IsS78.ge HI0.out) | refine below_set ?_ GE114.out) | exact HB.out)⟩⟩
    · rw [if_neg c5] at H
      have c5b0 : (a1 == 0) = false := beq_eq_false_iff_ne.mpr c5
      have c5b1 : (a1 != 0) = true := bne_iff_ne.mpr c5
      (first | rw [c5b0] | (simp only [i64_w, i32_w]; rw [c5b0]) | skip)
      replace H := Option.bind_eq_some_iff.mp H
      obtain ⟨⟨t115, t116⟩, A60, H⟩ := H
      replace H : (spec_l1Some.j0 k a1 (t115 == 0) s0_0 t116) = some (r1, r2, r3, r4, r5, r6) := H
      have A6 := Aside0.mk A60
      clear A60
      have H' := Aside0.mk H
      clear H
      go_wp2_with (first | (go_at_call 31; (with_reducible refine (spec_l15Rd_pick.calls k g s0_0 s0_1 3 t115 t116 w0 _ ?side1 ?side2 A6.out).mono ?_); (case side1 => repeat (first | (with_reducible first | exact HI0.out | apply IsS78.alloc | apply IsS78.drewN | apply IsS78.drew | apply IsS78.set_1 | refine IsS78.far ?_ NB0_114.out _) | exact HI0.out)); (case side2 => repeat (first | (with_reducible first | exact HB.out | apply below_alloc | apply pw_below_drewN | apply below_drew1 | refine below_set ?_ (IsS78.ge HI0.out) | refine below_set ?_ GE114.out) | exact HB.out)); rintro e w7 ⟨rfl, hi, hb, hk⟩; have n0_ := Aside0.mk (KeepBut.blk hk (g' := gb114) (o := .cells #[.int .i64 0, .string (⟨#[]⟩ : ByteArray), .int .i64 0, .slice none 0 0, .slice none 0 0] 26 (0, 0)) (by (with_reducible repeat (first | refine blk_drewN ?_ _ | refine blk_drew ?_ | refine blk_alloc ?_ _)); exact BK114.out) NB114_0.out (by simp)); have n1_ := Aside0.mk (KeepBut.trans (by repeat (first | (with_reducible first | exact HK.out | apply KeepBut.set_ | apply keep_drewN | apply keep_drew | apply keep_alloc | refine keep_far ?_ GW114.out _) | exact HK.out)) hk (.inl rfl)); have n2_ := Aside0.mk (hb); have n3_ := Aside0.mk (hi); clear BK114; clear HK; clear HB; clear HI0; have BK114 := n0_; have HK := n1_; have HB := n2_; have HI0 := n3_; clear n0_ n1_ n2_ n3_; (try clear hb); (try clear hb2); (try clear hk); (try clear hi)))
      go_meet
      case rel => exact ⟨_, ((t115 == 0)), (t116), (by first | rfl | (simp; done) | (simp [*]; done)), H', ⟨by first | omega | exact Nat.le_refl _⟩, ⟨by (with_reducible repeat (first | refine blk_drewN ?_ _ | refine blk_drew ?_ | refine blk_alloc ?_ _)); exact BK114.out⟩, ⟨by repeat (first | (with_reducible first | exact HI0.out | apply IsS78.alloc | apply IsS78.drewN | apply IsS78.drew | apply IsS78.set_1 | refine IsS78.far ?_ NB0_114.out _) | exact HI0.out)⟩, ⟨by repeat (first | (with_reducible first | exact HK.out | apply KeepBut.set_ | apply keep_drewN | apply keep_drew | apply keep_alloc | refine keep_far ?_ GW114.out _) | exact HK.out)⟩, ⟨by repeat (first | (with_reducible first | exact HB.out | apply below_alloc | apply pw_below_drewN | apply below_drew1 | refine below_set ?_ (IsS78.ge HI0.out) | refine below_set ?_ GE114.out) | exact HB.out)⟩⟩
  case rest =>
    clear HC3
    try clear p2
    try clear c3
    try clear c5
    try clear c5b0
    try clear c5b1
    obtain ⟨kq, x13_2, x1001_2, rfl, HA, HJ2, BK114, HI0, HK, HB⟩ := hcut
    cases kq with
    | zero => exact absurd HA.out (by simp [spec_l1Some.j0])
    | succ kj2 =>
      have H := HA.out
      clear HA
      simp only [spec_l1Some.j0] at H
      by_cases c8 : x13_2 = true
      · subst c8
        have H1 : ((spec_l15Rd_pick.f kj2 s0_0 x1001_2 4).bind fun bt117 => (if bt117.1 = 0 then ((spec_l15Rd_num.f kj2 s0_0 bt117.2 (([0, 1, 2, 7, 42, 999] : List Int))).bind fun bt122 => (some (2, (⟨#[]⟩ : ByteArray), bt122.1, ([] : List Int), ([] : List (S26)), bt122.2))) else ((spec_l15Rd_of.f kj2 s0_0 bt117.2 (([(⟨#[97]⟩ : ByteArray), (⟨#[98]⟩ : ByteArray), (⟨#[120]⟩ : ByteArray), (⟨#[121]⟩ : ByteArray), (⟨#[102]⟩ : ByteArray), (⟨#[105, 102]⟩ : ByteArray), (⟨#[108, 101, 116]⟩ : ByteArray), (⟨#[43]⟩ : ByteArray)] : List ByteArray))).bind fun bt127 => ((spec_l1Name.f bt127.1).bind fun bt129 => (some (bt129.1, bt129.2.1, bt129.2.2.1, bt129.2.2.2.1, bt129.2.2.2.2, bt127.2)))))) = some (r1, r2, r3, r4, r5, r6) := by rw [if_pos rfl] at H; exact H
        clear H
        have H := H1
        clear H1
        replace H := Option.bind_eq_some_iff.mp H
        obtain ⟨⟨t117, t118⟩, A90, H⟩ := H
        replace H : (if t117 = 0 then ((spec_l15Rd_num.f kj2 s0_0 t118 (([0, 1, 2, 7, 42, 999] : List Int))).bind fun bt122 => (some (2, (⟨#[]⟩ : ByteArray), bt122.1, ([] : List Int), ([] : List (S26)), bt122.2))) else ((spec_l15Rd_of.f kj2 s0_0 t118 (([(⟨#[97]⟩ : ByteArray), (⟨#[98]⟩ : ByteArray), (⟨#[120]⟩ : ByteArray), (⟨#[121]⟩ : ByteArray), (⟨#[102]⟩ : ByteArray), (⟨#[105, 102]⟩ : ByteArray), (⟨#[108, 101, 116]⟩ : ByteArray), (⟨#[43]⟩ : ByteArray)] : List ByteArray))).bind fun bt127 => ((spec_l1Name.f bt127.1).bind fun bt129 => (some (bt129.1, bt129.2.1, bt129.2.2.1, bt129.2.2.2.1, bt129.2.2.2.2, bt127.2))))) = some (r1, r2, r3, r4, r5, r6) := H
        have A9 := Aside0.mk A90
        clear A90
        by_cases c10 : t117 = 0
        · rw [if_pos c10] at H
          have c10b0 : (t117 == 0) = true := beq_iff_eq.mpr c10
          have c10b1 : (t117 != 0) = false := bne_eq_false_iff_eq.mpr c10
          clear c10
          obtain ⟨y119, hy119⟩ : ∃ y_ : List Int, y_ = (([0, 1, 2, 7, 42, 999] : List Int)) := ⟨_, rfl⟩
          replace H : ((spec_l15Rd_num.f kj2 s0_0 t118 y119).bind fun bt122 => (some (2, (⟨#[]⟩ : ByteArray), bt122.1, ([] : List Int), ([] : List (S26)), bt122.2))) = some (r1, r2, r3, r4, r5, r6) := by first | (rw [hy119]; with_reducible exact H) | (have H2_ := (Option.bind_some _ _).symm.trans H; rw [hy119]; with_reducible exact H2_) | (have H2_ := (Option.bind_some _ _).symm.trans H; with_reducible exact H2_) | with_reducible exact H | (rw [hy119]; exact H) | exact H
          have Ny119 := Aside0.mk hy119
          clear hy119
          replace H := Option.bind_eq_some_iff.mp H
          obtain ⟨⟨t122, t123⟩, A110, H⟩ := H
          replace H : (some (2, (⟨#[]⟩ : ByteArray), t122, ([] : List Int), ([] : List (S26)), t123)) = some (r1, r2, r3, r4, r5, r6) := H
          have A11 := Aside0.mk A110
          clear A110
          simp only [Option.some.injEq, Prod.mk.injEq] at H
          obtain ⟨rfl, rfl, rfl, rfl, rfl, rfl⟩ := H
          go_wp2_with (first | ((with_reducible refine gate_callee (f := 31) rfl ?_); refine goesL_ (some 15) rfl rfl Tryd.func31 (by kernel_rfl) rfl #[.pointer (some ⟨g, 0, none⟩), .int .i64 4] rfl (by (try simp only [List.map_toArray, List.map_cons, List.map_nil]); first | done | rfl | (simp only [List.length_drop, List.length_take]; rfl)) ?_; (with_reducible refine (spec_l15Rd_pick.calls kj2 g s0_0 x1001_2 4 t117 t118 w0 _ ?side1 ?side2 A9.out).mono ?_); (case side1 => repeat (first | (with_reducible first | exact HI0.out | apply IsS78.alloc | apply IsS78.drewN | apply IsS78.drew | apply IsS78.set_1 | refine IsS78.far ?_ NB0_114.out _) | exact HI0.out)); (case side2 => repeat (first | (with_reducible first | exact HB.out | apply below_alloc | apply pw_below_drewN | apply below_drew1 | refine below_set ?_ (IsS78.ge HI0.out) | refine below_set ?_ GE114.out) | exact HB.out)); rintro e w12 ⟨rfl, hi, hb, hk⟩; refine ⟨_, rfl, ?_⟩; have n0_ := Aside0.mk (KeepBut.blk hk (g' := gb114) (o := .cells #[.int .i64 0, .string (⟨#[]⟩ : ByteArray), .int .i64 0, .slice none 0 0, .slice none 0 0] 26 (0, 0)) (by (with_reducible repeat (first | refine blk_drewN ?_ _ | refine blk_drew ?_ | refine blk_alloc ?_ _)); exact BK114.out) NB114_0.out (by simp)); have n1_ := Aside0.mk (KeepBut.trans (by repeat (first | (with_reducible first | exact HK.out | apply KeepBut.set_ | apply keep_drewN | apply keep_drew | apply keep_alloc | refine keep_far ?_ GW114.out _) | exact HK.out)) hk (.inl rfl)); have n2_ := Aside0.mk (hb); have n3_ := Aside0.mk (hi); clear BK114; clear HK; clear HB; clear HI0; have BK114 := n0_; have HK := n1_; have HB := n2_; have HI0 := n3_; clear n0_ n1_ n2_ n3_; (try clear hb); (try clear hb2); (try clear hk); (try clear hi)) | ((with_reducible refine gate_dst (N := 18) rfl ?_); refine Kd.R_lit (Kd.int .i64) _ 3 ?hg (N := 18) ?hd (xs := ([0, 1, 2, 7, 42, 999] : List Int)) (inner := [.int .i64 0, .int .i64 1, .int .i64 2, .int .i64 7, .int .i64 42, .int .i64 999]) (ok := fun _ => True) (okp := fun _ => True) ?hr ?hp (fun _ hk => hk) trivial (Below.refl _ _) (Nat.le_refl _) (by simp) ?_; (case hd => rfl); (case hg => rfl); (case hr => first | (go_simp; done) | (go_simp; rfl)); (case hp => exact (Reps.one (show Kd.M (Kd.int .i64) _ _ _ 0 [.int .i64 0] from rfl) (Reps.one (show Kd.M (Kd.int .i64) _ _ _ 1 [.int .i64 1] from rfl) (Reps.one (show Kd.M (Kd.int .i64) _ _ _ 2 [.int .i64 2] from rfl) (Reps.one (show Kd.M (Kd.int .i64) _ _ _ 7 [.int .i64 7] from rfl) (Reps.one (show Kd.M (Kd.int .i64) _ _ _ 42 [.int .i64 42] from rfl) (Reps.one (show Kd.M (Kd.int .i64) _ _ _ 999 [.int .i64 999] from rfl) (Reps.none _ _)))))))); intro v120 w13 ho14 hb hg_ hnew_; clear hg_ hnew_; (first | rw [← Ny119.out] at ho14 | (simp only [Int.reduceToNat] at ho14; rw [← Ny119.out] at ho14)); have n0_ := Aside0.mk (Kd.R_lower ho14 (keep_size (w := w) (g := g) (row := none) (by repeat (first | (with_reducible first | exact HK.out | apply KeepBut.set_ | apply keep_drewN | apply keep_drew | apply keep_alloc | refine keep_far ?_ GW114.out _) | exact HK.out)))); have n1_ := Aside0.mk (blk_below (g := gb114) (o := .cells #[.int .i64 0, .string (⟨#[]⟩ : ByteArray), .int .i64 0, .slice none 0 0, .slice none 0 0] 26 (0, 0)) (by (with_reducible repeat (first | refine blk_drewN ?_ _ | refine blk_drew ?_ | refine blk_alloc ?_ _)); exact BK114.out) hb); have n2_ := Aside0.mk (IsS78.below (by repeat (first | (with_reducible first | exact HI0.out | apply IsS78.alloc | apply IsS78.drewN | apply IsS78.drew | apply IsS78.set_1 | refine IsS78.far ?_ NB0_114.out _) | exact HI0.out)) hb); have n3_ := Aside0.mk (KeepBut.trans (by repeat (first | (with_reducible first | exact HK.out | apply KeepBut.set_ | apply keep_drewN | apply keep_drew | apply keep_alloc | refine keep_far ?_ GW114.out _) | exact HK.out)) (KeepBut.of_below hb g none) (.inl rfl)); have n4_ := Aside0.mk (below_step (by repeat (first | (with_reducible first | exact HB.out | apply below_alloc | apply pw_below_drewN | apply below_drew1 | refine below_set ?_ (IsS78.ge HI0.out) | refine below_set ?_ GE114.out) | exact HB.out)) hb); clear BK114; clear HI0; clear HK; clear HB; have HO121 := n0_; have BK114 := n1_; have HI0 := n2_; have HK := n3_; have HB := n4_; clear n0_ n1_ n2_ n3_ n4_; clear hb ho14; obtain ⟨Ao15, co15, eo15⟩ := Kd.R_slice HO121.out; subst eo15) | ((with_reducible refine gate_callee (f := 62) rfl ?_); refine goesL_ (some 19) rfl rfl Tryd.func62 (by kernel_rfl) rfl #[.pointer (some ⟨g, 0, none⟩), .slice Ao15 y119.length co15] rfl (by (try simp only [List.map_toArray, List.map_cons, List.map_nil]); first | done | rfl | (simp only [List.length_drop, List.length_take]; rfl)) ?_; (with_reducible refine (spec_l15Rd_num.calls kj2 g s0_0 t118 _ _ y119 t122 t123 w0 _ ?side1 ?side2 ?side3 ?side4 ?side5 A11.out).mono ?_); (case side1 => repeat (first | (with_reducible first | exact HI0.out | apply IsS78.alloc | apply IsS78.drewN | apply IsS78.drew | apply IsS78.set_1 | refine IsS78.far ?_ NB0_114.out _) | exact HI0.out)); (case side2 => repeat (first | (with_reducible first | exact HB.out | apply below_alloc | apply pw_below_drewN | apply below_drew1 | refine below_set ?_ (IsS78.ge HI0.out) | refine below_set ?_ GE114.out) | exact HB.out)); (case side3 => repeat (first | exact (Kd.R_reads' HO121.out).2.2 | (with_reducible refine Kd.C_alloc ?_ _) | (with_reducible refine Kd.C_drewN ?_ _) | (with_reducible refine Kd.C_drew ?_))); (case side4 => exact (Kd.R_reads' HO121.out).2.1); (case side5 => exact far_slice (IsS78.own_ne HI0.out HO121.out (by decide))); rintro e w16 ⟨rfl, hi, hb, hk⟩; refine ⟨_, rfl, ?_⟩; have n0_ := Aside0.mk (KeepBut.blk hk (g' := gb114) (o := .cells #[.int .i64 0, .string (⟨#[]⟩ : ByteArray), .int .i64 0, .slice none 0 0, .slice none 0 0] 26 (0, 0)) (by (with_reducible repeat (first | refine blk_drewN ?_ _ | refine blk_drew ?_ | refine blk_alloc ?_ _)); exact BK114.out) NB114_0.out (by simp)); have n1_ := Aside0.mk (Kd.R_mono (Kd.R_keep (IsS78.apart (show IsS78 w0 _ g s0_0 t118 from by repeat (first | (with_reducible first | exact HI0.out | apply IsS78.alloc | apply IsS78.drewN | apply IsS78.drew | apply IsS78.set_1 | refine IsS78.far ?_ NB0_114.out _) | exact HI0.out)) (by (with_reducible repeat (first | apply Kd.R_alloc | apply Kd.R_drewN | apply Kd.R_drew)); exact HO121.out) (by decide)) hk (fun _ h => h.2)) (fun _ h => h.1)); have n2_ := Aside0.mk (KeepBut.trans (by repeat (first | (with_reducible first | exact HK.out | apply KeepBut.set_ | apply keep_drewN | apply keep_drew | apply keep_alloc | refine keep_far ?_ GW114.out _) | exact HK.out)) hk (.inl rfl)); have n3_ := Aside0.mk (hb); have n4_ := Aside0.mk (hi); clear BK114; clear HO121; clear HK; clear HB; clear HI0; have BK114 := n0_; have HO121 := n1_; have HK := n2_; have HB := n3_; have HI0 := n4_; clear n0_ n1_ n2_ n3_ n4_; (try clear hb); (try clear hb2); (try clear hk); (try clear hi); have hnb17 := NB114_0.out; have hnc17 := NB0_114.out; have hcz18_0 : w16.cell? ⟨gb114, 0, none⟩ = some (.int .i64 0) := (blk_cell BK114.out 0).trans rfl; have hcz18_1 : w16.cell? ⟨gb114, 1, none⟩ = some (.string (⟨#[]⟩ : ByteArray)) := (blk_cell BK114.out 1).trans rfl; have hcz18_2 : w16.cell? ⟨gb114, 2, none⟩ = some (.int .i64 0) := (blk_cell BK114.out 2).trans rfl; have hcz18_3 : w16.cell? ⟨gb114, 3, none⟩ = some (.slice none 0 0) := (blk_cell BK114.out 3).trans rfl; have hcz18_4 : w16.cell? ⟨gb114, 4, none⟩ = some (.slice none 0 0) := (blk_cell BK114.out 4).trans rfl; have hfz18_0 := blk_frozen BK114.out 0; have hfz18_1 := blk_frozen BK114.out 1; have hfz18_2 := blk_frozen BK114.out 2; have hfz18_3 := blk_frozen BK114.out 3; have hfz18_4 := blk_frozen BK114.out 4))
          refine bodyPost_ret (results_cell_row rfl _ _ gb114 26 #[.int .i64 2, .string (⟨#[]⟩ : ByteArray), .int .i64 t122, .slice none 0 0, .slice none 0 0] (0, 0) _ rfl (by (with_reducible repeat (first | refine blk_drewN ?_ _ | refine blk_drew ?_ | refine blk_alloc ?_ _)); refine blk_put (cs := #[.int .i64 2, .string (⟨#[]⟩ : ByteArray), .int .i64 t122, .slice none 0 0, .slice none 0 0]) ?_ 4 _ rfl; (with_reducible repeat (first | refine blk_drewN ?_ _ | refine blk_drew ?_ | refine blk_alloc ?_ _)); refine blk_put (cs := #[.int .i64 2, .string (⟨#[]⟩ : ByteArray), .int .i64 t122, .slice none 0 0, .slice none 0 0]) ?_ 3 _ rfl; (with_reducible repeat (first | refine blk_drewN ?_ _ | refine blk_drew ?_ | refine blk_alloc ?_ _)); refine blk_put (cs := #[.int .i64 2, .string (⟨#[]⟩ : ByteArray), .int .i64 0, .slice none 0 0, .slice none 0 0]) ?_ 2 _ rfl; (with_reducible repeat (first | refine blk_drewN ?_ _ | refine blk_drew ?_ | refine blk_alloc ?_ _)); refine blk_put (cs := #[.int .i64 2, .string (⟨#[]⟩ : ByteArray), .int .i64 0, .slice none 0 0, .slice none 0 0]) ?_ 1 _ rfl; (with_reducible repeat (first | refine blk_drewN ?_ _ | refine blk_drew ?_ | refine blk_alloc ?_ _)); refine blk_put (cs := #[.int .i64 0, .string (⟨#[]⟩ : ByteArray), .int .i64 0, .slice none 0 0, .slice none 0 0]) ?_ 0 _ rfl; (with_reducible repeat (first | refine blk_drewN ?_ _ | refine blk_drew ?_ | refine blk_alloc ?_ _)); exact BK114.out) Tryd.underlying26 rfl (by kernel_rfl)) rfl ?_
          exact ⟨_, _, by first | rfl | (simp [errW_none, errW_some] <;> rfl) | (simp [*, errW_none, errW_some] <;> rfl), by first | exact Kd.R_nil _ _ _ _ _ | exact Kd.N_nil _ _ _ _ _ | exact Kd.V_nil _ _ _ _ _ | exact Kd.Q_nil _ _ _ _ _ | exact Kd.S_nil _ _ _ _ _, by first | exact Kd.R_nil _ _ _ _ _ | exact Kd.N_nil _ _ _ _ _ | exact Kd.V_nil _ _ _ _ _ | exact Kd.Q_nil _ _ _ _ _ | exact Kd.S_nil _ _ _ _ _, by repeat (first | (with_reducible first | exact HI0.out | apply IsS78.alloc | apply IsS78.drewN | apply IsS78.drew | apply IsS78.set_1 | refine IsS78.far ?_ NB0_114.out _) | exact HI0.out), by repeat (first | (with_reducible first | exact HB.out | apply below_alloc | apply pw_below_drewN | apply below_drew1 | refine below_set ?_ (IsS78.ge HI0.out) | refine below_set ?_ GE114.out) | exact HB.out), by repeat (first | (with_reducible first | exact HK.out | apply KeepBut.set_ | apply keep_drewN | apply keep_drew | apply keep_alloc | refine keep_far ?_ GW114.out _) | exact HK.out)⟩
        · rw [if_neg c10] at H
          have c10b0 : (t117 == 0) = false := beq_eq_false_iff_ne.mpr c10
          have c10b1 : (t117 != 0) = true := bne_iff_ne.mpr c10
          obtain ⟨y124, hy124⟩ : ∃ y_ : List ByteArray, y_ = (([(⟨#[97]⟩ : ByteArray), (⟨#[98]⟩ : ByteArray), (⟨#[120]⟩ : ByteArray), (⟨#[121]⟩ : ByteArray), (⟨#[102]⟩ : ByteArray), (⟨#[105, 102]⟩ : ByteArray), (⟨#[108, 101, 116]⟩ : ByteArray), (⟨#[43]⟩ : ByteArray)] : List ByteArray)) := ⟨_, rfl⟩
          replace H : ((spec_l15Rd_of.f kj2 s0_0 t118 y124).bind fun bt127 => ((spec_l1Name.f bt127.1).bind fun bt129 => (some (bt129.1, bt129.2.1, bt129.2.2.1, bt129.2.2.2.1, bt129.2.2.2.2, bt127.2)))) = some (r1, r2, r3, r4, r5, r6) := by first | (rw [hy124]; with_reducible exact H) | (have H2_ := (Option.bind_some _ _).symm.trans H; rw [hy124]; with_reducible exact H2_) | (have H2_ := (Option.bind_some _ _).symm.trans H; with_reducible exact H2_) | with_reducible exact H | (rw [hy124]; exact H) | exact H
          have Ny124 := Aside0.mk hy124
          clear hy124
          replace H := Option.bind_eq_some_iff.mp H
          obtain ⟨⟨t127, t128⟩, A190, H⟩ := H
          replace H : ((spec_l1Name.f t127).bind fun bt129 => (some (bt129.1, bt129.2.1, bt129.2.2.1, bt129.2.2.2.1, bt129.2.2.2.2, t128))) = some (r1, r2, r3, r4, r5, r6) := H
          have A19 := Aside0.mk A190
          clear A190
          replace H := Option.bind_eq_some_iff.mp H
          obtain ⟨⟨t129, t130, t131, t132, t135⟩, A200, H⟩ := H
          replace H : (some (t129, t130, t131, t132, t135, t128)) = some (r1, r2, r3, r4, r5, r6) := H
          have A20 := Aside0.mk A200
          clear A200
          simp only [Option.some.injEq, Prod.mk.injEq] at H
          obtain ⟨rfl, rfl, rfl, rfl, rfl, rfl⟩ := H
          go_wp2_with (first | ((with_reducible refine gate_callee (f := 31) rfl ?_); refine goesL_ (some 15) rfl rfl Tryd.func31 (by kernel_rfl) rfl #[.pointer (some ⟨g, 0, none⟩), .int .i64 4] rfl (by (try simp only [List.map_toArray, List.map_cons, List.map_nil]); first | done | rfl | (simp only [List.length_drop, List.length_take]; rfl)) ?_; (with_reducible refine (spec_l15Rd_pick.calls kj2 g s0_0 x1001_2 4 t117 t118 w0 _ ?side1 ?side2 A9.out).mono ?_); (case side1 => repeat (first | (with_reducible first | exact HI0.out | apply IsS78.alloc | apply IsS78.drewN | apply IsS78.drew | apply IsS78.set_1 | refine IsS78.far ?_ NB0_114.out _) | exact HI0.out)); (case side2 => repeat (first | (with_reducible first | exact HB.out | apply below_alloc | apply pw_below_drewN | apply below_drew1 | refine below_set ?_ (IsS78.ge HI0.out) | refine below_set ?_ GE114.out) | exact HB.out)); rintro e w21 ⟨rfl, hi, hb, hk⟩; refine ⟨_, rfl, ?_⟩; have n0_ := Aside0.mk (KeepBut.blk hk (g' := gb114) (o := .cells #[.int .i64 0, .string (⟨#[]⟩ : ByteArray), .int .i64 0, .slice none 0 0, .slice none 0 0] 26 (0, 0)) (by (with_reducible repeat (first | refine blk_drewN ?_ _ | refine blk_drew ?_ | refine blk_alloc ?_ _)); exact BK114.out) NB114_0.out (by simp)); have n1_ := Aside0.mk (KeepBut.trans (by repeat (first | (with_reducible first | exact HK.out | apply KeepBut.set_ | apply keep_drewN | apply keep_drew | apply keep_alloc | refine keep_far ?_ GW114.out _) | exact HK.out)) hk (.inl rfl)); have n2_ := Aside0.mk (hb); have n3_ := Aside0.mk (hi); clear BK114; clear HK; clear HB; clear HI0; have BK114 := n0_; have HK := n1_; have HB := n2_; have HI0 := n3_; clear n0_ n1_ n2_ n3_; (try clear hb); (try clear hb2); (try clear hk); (try clear hi)) | ((with_reducible refine gate_dst (N := 22) rfl ?_); refine Kd.R_lit Kd.string _ 9 ?hg (N := 22) ?hd (xs := ([(⟨#[97]⟩ : ByteArray), (⟨#[98]⟩ : ByteArray), (⟨#[120]⟩ : ByteArray), (⟨#[121]⟩ : ByteArray), (⟨#[102]⟩ : ByteArray), (⟨#[105, 102]⟩ : ByteArray), (⟨#[108, 101, 116]⟩ : ByteArray), (⟨#[43]⟩ : ByteArray)] : List ByteArray)) (inner := [.string (⟨#[97]⟩ : ByteArray), .string (⟨#[98]⟩ : ByteArray), .string (⟨#[120]⟩ : ByteArray), .string (⟨#[121]⟩ : ByteArray), .string (⟨#[102]⟩ : ByteArray), .string (⟨#[105, 102]⟩ : ByteArray), .string (⟨#[108, 101, 116]⟩ : ByteArray), .string (⟨#[43]⟩ : ByteArray)]) (ok := fun _ => True) (okp := fun _ => True) ?hr ?hp (fun _ hk => hk) trivial (Below.refl _ _) (Nat.le_refl _) (by simp) ?_; (case hd => rfl); (case hg => rfl); (case hr => first | (go_simp; done) | (go_simp; rfl)); (case hp => exact (Reps.one (show Kd.M Kd.string _ _ _ (⟨#[97]⟩ : ByteArray) [.string (⟨#[97]⟩ : ByteArray)] from rfl) (Reps.one (show Kd.M Kd.string _ _ _ (⟨#[98]⟩ : ByteArray) [.string (⟨#[98]⟩ : ByteArray)] from rfl) (Reps.one (show Kd.M Kd.string _ _ _ (⟨#[120]⟩ : ByteArray) [.string (⟨#[120]⟩ : ByteArray)] from rfl) (Reps.one (show Kd.M Kd.string _ _ _ (⟨#[121]⟩ : ByteArray) [.string (⟨#[121]⟩ : ByteArray)] from rfl) (Reps.one (show Kd.M Kd.string _ _ _ (⟨#[102]⟩ : ByteArray) [.string (⟨#[102]⟩ : ByteArray)] from rfl) (Reps.one (show Kd.M Kd.string _ _ _ (⟨#[105, 102]⟩ : ByteArray) [.string (⟨#[105, 102]⟩ : ByteArray)] from rfl) (Reps.one (show Kd.M Kd.string _ _ _ (⟨#[108, 101, 116]⟩ : ByteArray) [.string (⟨#[108, 101, 116]⟩ : ByteArray)] from rfl) (Reps.one (show Kd.M Kd.string _ _ _ (⟨#[43]⟩ : ByteArray) [.string (⟨#[43]⟩ : ByteArray)] from rfl) (Reps.none _ _)))))))))); intro v125 w22 ho23 hb hg_ hnew_; clear hg_ hnew_; (first | rw [← Ny124.out] at ho23 | (simp only [Int.reduceToNat] at ho23; rw [← Ny124.out] at ho23)); have n0_ := Aside0.mk (Kd.R_lower ho23 (keep_size (w := w) (g := g) (row := none) (by repeat (first | (with_reducible first | exact HK.out | apply KeepBut.set_ | apply keep_drewN | apply keep_drew | apply keep_alloc | refine keep_far ?_ GW114.out _) | exact HK.out)))); have n1_ := Aside0.mk (blk_below (g := gb114) (o := .cells #[.int .i64 0, .string (⟨#[]⟩ : ByteArray), .int .i64 0, .slice none 0 0, .slice none 0 0] 26 (0, 0)) (by (with_reducible repeat (first | refine blk_drewN ?_ _ | refine blk_drew ?_ | refine blk_alloc ?_ _)); exact BK114.out) hb); have n2_ := Aside0.mk (IsS78.below (by repeat (first | (with_reducible first | exact HI0.out | apply IsS78.alloc | apply IsS78.drewN | apply IsS78.drew | apply IsS78.set_1 | refine IsS78.far ?_ NB0_114.out _) | exact HI0.out)) hb); have n3_ := Aside0.mk (KeepBut.trans (by repeat (first | (with_reducible first | exact HK.out | apply KeepBut.set_ | apply keep_drewN | apply keep_drew | apply keep_alloc | refine keep_far ?_ GW114.out _) | exact HK.out)) (KeepBut.of_below hb g none) (.inl rfl)); have n4_ := Aside0.mk (below_step (by repeat (first | (with_reducible first | exact HB.out | apply below_alloc | apply pw_below_drewN | apply below_drew1 | refine below_set ?_ (IsS78.ge HI0.out) | refine below_set ?_ GE114.out) | exact HB.out)) hb); clear BK114; clear HI0; clear HK; clear HB; have HO126 := n0_; have BK114 := n1_; have HI0 := n2_; have HK := n3_; have HB := n4_; clear n0_ n1_ n2_ n3_ n4_; clear hb ho23; obtain ⟨Ao24, co24, eo24⟩ := Kd.R_slice HO126.out; subst eo24) | ((with_reducible refine gate_callee (f := 64) rfl ?_); refine goesL_ (some 23) rfl rfl Tryd.func64 (by kernel_rfl) rfl #[.pointer (some ⟨g, 0, none⟩), .slice Ao24 y124.length co24] rfl (by (try simp only [List.map_toArray, List.map_cons, List.map_nil]); first | done | rfl | (simp only [List.length_drop, List.length_take]; rfl)) ?_; (with_reducible refine (spec_l15Rd_of.calls kj2 g s0_0 t118 _ _ y124 t127 t128 w0 _ ?side1 ?side2 ?side3 ?side4 ?side5 A19.out).mono ?_); (case side1 => repeat (first | (with_reducible first | exact HI0.out | apply IsS78.alloc | apply IsS78.drewN | apply IsS78.drew | apply IsS78.set_1 | refine IsS78.far ?_ NB0_114.out _) | exact HI0.out)); (case side2 => repeat (first | (with_reducible first | exact HB.out | apply below_alloc | apply pw_below_drewN | apply below_drew1 | refine below_set ?_ (IsS78.ge HI0.out) | refine below_set ?_ GE114.out) | exact HB.out)); (case side3 => repeat (first | exact (Kd.R_reads' HO126.out).2.2 | (with_reducible refine Kd.C_alloc ?_ _) | (with_reducible refine Kd.C_drewN ?_ _) | (with_reducible refine Kd.C_drew ?_))); (case side4 => exact (Kd.R_reads' HO126.out).2.1); (case side5 => exact far_slice (IsS78.own_ne HI0.out HO126.out (by decide))); rintro e w25 ⟨rfl, hi, hb, hk⟩; refine ⟨_, rfl, ?_⟩; have n0_ := Aside0.mk (KeepBut.blk hk (g' := gb114) (o := .cells #[.int .i64 0, .string (⟨#[]⟩ : ByteArray), .int .i64 0, .slice none 0 0, .slice none 0 0] 26 (0, 0)) (by (with_reducible repeat (first | refine blk_drewN ?_ _ | refine blk_drew ?_ | refine blk_alloc ?_ _)); exact BK114.out) NB114_0.out (by simp)); have n1_ := Aside0.mk (Kd.R_mono (Kd.R_keep (IsS78.apart (show IsS78 w0 _ g s0_0 t118 from by repeat (first | (with_reducible first | exact HI0.out | apply IsS78.alloc | apply IsS78.drewN | apply IsS78.drew | apply IsS78.set_1 | refine IsS78.far ?_ NB0_114.out _) | exact HI0.out)) (by (with_reducible repeat (first | apply Kd.R_alloc | apply Kd.R_drewN | apply Kd.R_drew)); exact HO126.out) (by decide)) hk (fun _ h => h.2)) (fun _ h => h.1)); have n2_ := Aside0.mk (KeepBut.trans (by repeat (first | (with_reducible first | exact HK.out | apply KeepBut.set_ | apply keep_drewN | apply keep_drew | apply keep_alloc | refine keep_far ?_ GW114.out _) | exact HK.out)) hk (.inl rfl)); have n3_ := Aside0.mk (hb); have n4_ := Aside0.mk (hi); clear BK114; clear HO126; clear HK; clear HB; clear HI0; have BK114 := n0_; have HO126 := n1_; have HK := n2_; have HB := n3_; have HI0 := n4_; clear n0_ n1_ n2_ n3_ n4_; (try clear hb); (try clear hb2); (try clear hk); (try clear hi)) | ((with_reducible refine gate_callee (f := 63) rfl ?_); refine goesL_ (some 24) rfl rfl Tryd.func63 (by kernel_rfl) rfl #[.string t127] rfl (by (try simp only [List.map_toArray, List.map_cons, List.map_nil]); first | done | rfl | (simp only [List.length_drop, List.length_take]; rfl)) ?_; (with_reducible refine (spec_l1Name.calls t127 t129 t130 t131 t132 t135 _ A20.out).mono ?_); rintro e w26 ⟨v133, v136, rfl, ho0, ho1, hb⟩; refine ⟨_, rfl, ?_⟩; have n0_ := Aside0.mk (Kd.R_below (by (with_reducible repeat (first | apply Kd.R_alloc | apply Kd.R_drewN | apply Kd.R_drew)); exact HO126.out) hb); have n1_ := Aside0.mk (Kd.R_lower ho0 (keep_size (w := w) (g := g) (row := none) (by repeat (first | (with_reducible first | exact HK.out | apply KeepBut.set_ | apply keep_drewN | apply keep_drew | apply keep_alloc | refine keep_far ?_ GW114.out _) | exact HK.out)))); have n2_ := Aside0.mk (Kd.R_lower (Kd.R_newB ho1 (g := gb114) (o := .cells #[.int .i64 0, .string (⟨#[]⟩ : ByteArray), .int .i64 0, .slice none 0 0, .slice none 0 0] 26 (0, 0)) (by (with_reducible repeat (first | refine blk_drewN ?_ _ | refine blk_drew ?_ | refine blk_alloc ?_ _)); exact BK114.out)) (keep_size (w := w) (g := g) (row := none) (by repeat (first | (with_reducible first | exact HK.out | apply KeepBut.set_ | apply keep_drewN | apply keep_drew | apply keep_alloc | refine keep_far ?_ GW114.out _) | exact HK.out)))); have n3_ := Aside0.mk (blk_below (g := gb114) (o := .cells #[.int .i64 0, .string (⟨#[]⟩ : ByteArray), .int .i64 0, .slice none 0 0, .slice none 0 0] 26 (0, 0)) (by (with_reducible repeat (first | refine blk_drewN ?_ _ | refine blk_drew ?_ | refine blk_alloc ?_ _)); exact BK114.out) hb); have n4_ := Aside0.mk (IsS78.below (by repeat (first | (with_reducible first | exact HI0.out | apply IsS78.alloc | apply IsS78.drewN | apply IsS78.drew | apply IsS78.set_1 | refine IsS78.far ?_ NB0_114.out _) | exact HI0.out)) hb); have n5_ := Aside0.mk (KeepBut.trans (by repeat (first | (with_reducible first | exact HK.out | apply KeepBut.set_ | apply keep_drewN | apply keep_drew | apply keep_alloc | refine keep_far ?_ GW114.out _) | exact HK.out)) (KeepBut.of_below hb g none) (.inl rfl)); have n6_ := Aside0.mk (below_step (by repeat (first | (with_reducible first | exact HB.out | apply below_alloc | apply pw_below_drewN | apply below_drew1 | refine below_set ?_ (IsS78.ge HI0.out) | refine below_set ?_ GE114.out) | exact HB.out)) hb); clear HO126; clear BK114; clear HI0; clear HK; clear HB; have HO126 := n0_; have HO134 := n1_; have HO137 := n2_; have BK114 := n3_; have HI0 := n4_; have HK := n5_; have HB := n6_; clear n0_ n1_ n2_ n3_ n4_ n5_ n6_; (try clear hb); (try clear hb2); (try clear hk); (try clear hi); (try clear ho0); (try clear ho1); have hnb27 := NB114_0.out; have hnc27 := NB0_114.out; have hcz28_0 : w26.cell? ⟨gb114, 0, none⟩ = some (.int .i64 0) := (blk_cell BK114.out 0).trans rfl; have hcz28_1 : w26.cell? ⟨gb114, 1, none⟩ = some (.string (⟨#[]⟩ : ByteArray)) := (blk_cell BK114.out 1).trans rfl; have hcz28_2 : w26.cell? ⟨gb114, 2, none⟩ = some (.int .i64 0) := (blk_cell BK114.out 2).trans rfl; have hcz28_3 : w26.cell? ⟨gb114, 3, none⟩ = some (.slice none 0 0) := (blk_cell BK114.out 3).trans rfl; have hcz28_4 : w26.cell? ⟨gb114, 4, none⟩ = some (.slice none 0 0) := (blk_cell BK114.out 4).trans rfl; have hfz28_0 := blk_frozen BK114.out 0; have hfz28_1 := blk_frozen BK114.out 1; have hfz28_2 := blk_frozen BK114.out 2; have hfz28_3 := blk_frozen BK114.out 3; have hfz28_4 := blk_frozen BK114.out 4; obtain ⟨Ao29, co29, eo29⟩ := Kd.R_slice HO134.out; subst eo29; obtain ⟨Ao30, co30, eo30⟩ := Kd.R_slice HO137.out; subst eo30))
          refine bodyPost_ret (results_cell_row rfl _ _ gb114 26 #[.int .i64 t129, .string t130, .int .i64 t131, .slice Ao29 t132.length co29, .slice Ao30 t135.length co30] (0, 0) _ rfl (by (with_reducible repeat (first | refine blk_drewN ?_ _ | refine blk_drew ?_ | refine blk_alloc ?_ _)); refine blk_put (cs := #[.int .i64 t129, .string t130, .int .i64 t131, .slice Ao29 t132.length co29, .slice none 0 0]) ?_ 4 _ rfl; (with_reducible repeat (first | refine blk_drewN ?_ _ | refine blk_drew ?_ | refine blk_alloc ?_ _)); refine blk_put (cs := #[.int .i64 t129, .string t130, .int .i64 t131, .slice none 0 0, .slice none 0 0]) ?_ 3 _ rfl; (with_reducible repeat (first | refine blk_drewN ?_ _ | refine blk_drew ?_ | refine blk_alloc ?_ _)); refine blk_put (cs := #[.int .i64 t129, .string t130, .int .i64 0, .slice none 0 0, .slice none 0 0]) ?_ 2 _ rfl; (with_reducible repeat (first | refine blk_drewN ?_ _ | refine blk_drew ?_ | refine blk_alloc ?_ _)); refine blk_put (cs := #[.int .i64 t129, .string (⟨#[]⟩ : ByteArray), .int .i64 0, .slice none 0 0, .slice none 0 0]) ?_ 1 _ rfl; (with_reducible repeat (first | refine blk_drewN ?_ _ | refine blk_drew ?_ | refine blk_alloc ?_ _)); refine blk_put (cs := #[.int .i64 0, .string (⟨#[]⟩ : ByteArray), .int .i64 0, .slice none 0 0, .slice none 0 0]) ?_ 0 _ rfl; (with_reducible repeat (first | refine blk_drewN ?_ _ | refine blk_drew ?_ | refine blk_alloc ?_ _)); exact BK114.out) Tryd.underlying26 rfl (by kernel_rfl)) rfl ?_
          exact ⟨_, _, by first | rfl | (simp [errW_none, errW_some] <;> rfl) | (simp [*, errW_none, errW_some] <;> rfl), by (with_reducible repeat (first | apply Kd.R_alloc | apply Kd.R_drewN | apply Kd.R_drew)); exact Kd.R_mono (Kd.R_far (p := ⟨gb114, 4, none⟩) (Kd.R_far (p := ⟨gb114, 3, none⟩) (Kd.R_far (p := ⟨gb114, 2, none⟩) (Kd.R_far (p := ⟨gb114, 1, none⟩) (Kd.R_far (p := ⟨gb114, 0, none⟩) (Kd.R_types HO134.out BK114.out (by decide)) (fun _ hk => hk.2) (.int .i64 t129)) (fun _ hk => hk.2) (.string t130)) (fun _ hk => hk.2) (.int .i64 t131)) (fun _ hk => hk.2) (.slice Ao29 t132.length co29)) (fun _ hk => hk.2) (.slice Ao30 t135.length co30)) (fun _ hk => trivial), by (with_reducible repeat (first | apply Kd.R_alloc | apply Kd.R_drewN | apply Kd.R_drew)); exact Kd.R_mono (Kd.R_far (p := ⟨gb114, 4, none⟩) (Kd.R_far (p := ⟨gb114, 3, none⟩) (Kd.R_far (p := ⟨gb114, 2, none⟩) (Kd.R_far (p := ⟨gb114, 1, none⟩) (Kd.R_far (p := ⟨gb114, 0, none⟩) (Kd.R_mono HO137.out (fun k_ hk => (⟨hk, hk.2⟩ : _ ∧ k_ ≠ gb114))) (fun _ hk => hk.2) (.int .i64 t129)) (fun _ hk => hk.2) (.string t130)) (fun _ hk => hk.2) (.int .i64 t131)) (fun _ hk => hk.2) (.slice Ao29 t132.length co29)) (fun _ hk => hk.2) (.slice Ao30 t135.length co30)) (fun _ hk => hk.1.1), by repeat (first | (with_reducible first | exact HI0.out | apply IsS78.alloc | apply IsS78.drewN | apply IsS78.drew | apply IsS78.set_1 | refine IsS78.far ?_ NB0_114.out _) | exact HI0.out), by repeat (first | (with_reducible first | exact HB.out | apply below_alloc | apply pw_below_drewN | apply below_drew1 | refine below_set ?_ (IsS78.ge HI0.out) | refine below_set ?_ GE114.out) | exact HB.out), by repeat (first | (with_reducible first | exact HK.out | apply KeepBut.set_ | apply keep_drewN | apply keep_drew | apply keep_alloc | refine keep_far ?_ GW114.out _) | exact HK.out)⟩
      · replace c8 := Bool.eq_false_iff.mpr c8
        subst c8
        have H1 : ((spec_l15Rd_pick.f kj2 s0_0 x1001_2 4).bind fun bt139 => (spec_l1Some.l0 kj2 a1 bt139.1 s0_0 bt139.2 3 (⟨#[]⟩ : ByteArray) 0 ([] : List (S26)))) = some (r1, r2, r3, r4, r5, r6) := by rw [if_neg (show ¬ (false = true) by decide)] at H; exact H
        clear H
        have H := H1
        clear H1
        replace H := Option.bind_eq_some_iff.mp H
        obtain ⟨⟨t139, t140⟩, A310, H⟩ := H
        replace H : (spec_l1Some.l0 kj2 a1 t139 s0_0 t140 3 (⟨#[]⟩ : ByteArray) 0 ([] : List (S26))) = some (r1, r2, r3, r4, r5, r6) := H
        have A31 := Aside0.mk A310
        clear A310
        have H' := Aside0.mk H
        clear H
        go_wp2_with (first | ((with_reducible refine gate_dst (N := 5) rfl ?_); refine box_event ?hg (N := 5) ?hd (cs := #[.int .i64 0, .string (⟨#[]⟩ : ByteArray), .int .i64 0, .slice none 0 0, .slice none 0 0]) (t := 26) ?hr ?_; (case hd => rfl); (case hg => rfl); (case hr => first | (go_simp; done) | (go_simp; rfl)); intro gb138 hg w32 hbox hb; have n0_ := Aside0.mk (blk_below (g := gb114) (o := .cells #[.int .i64 0, .string (⟨#[]⟩ : ByteArray), .int .i64 0, .slice none 0 0, .slice none 0 0] 26 (0, 0)) (by (with_reducible repeat (first | refine blk_drewN ?_ _ | refine blk_drew ?_ | refine blk_alloc ?_ _)); exact BK114.out) hb); have n1_ := Aside0.mk (IsS78.below (by repeat (first | (with_reducible first | exact HI0.out | apply IsS78.alloc | apply IsS78.drewN | apply IsS78.drew | apply IsS78.set_1 | refine IsS78.far ?_ NB0_114.out _) | exact HI0.out)) hb); have n2_ := Aside0.mk (KeepBut.trans (by repeat (first | (with_reducible first | exact HK.out | apply KeepBut.set_ | apply keep_drewN | apply keep_drew | apply keep_alloc | refine keep_far ?_ GW114.out _) | exact HK.out)) (KeepBut.of_below hb g none) (.inl rfl)); have n3_ := Aside0.mk (below_step (by repeat (first | (with_reducible first | exact HB.out | apply below_alloc | apply pw_below_drewN | apply below_drew1 | refine below_set ?_ (IsS78.ge HI0.out) | refine below_set ?_ GE114.out) | exact HB.out)) hb); have n4_ := Aside0.mk (hbox); have n5_ := Aside0.mk ((by rw [hg]; exact (keep_size (w := w) (g := g) (row := none) (by repeat (first | (with_reducible first | exact HK.out | apply KeepBut.set_ | apply keep_drewN | apply keep_drew | apply keep_alloc | refine keep_far ?_ GW114.out _) | exact HK.out))) : w.heap.size ≤ gb138)); have n6_ := Aside0.mk ((Nat.le_trans HW0.out (by rw [hg]; exact (keep_size (w := w) (g := g) (row := none) (by repeat (first | (with_reducible first | exact HK.out | apply KeepBut.set_ | apply keep_drewN | apply keep_drew | apply keep_alloc | refine keep_far ?_ GW114.out _) | exact HK.out))) : w.heap.size ≤ gb138) : w0.heap.size ≤ gb138)); have n7_ := Aside0.mk ((by rw [hg]; exact Nat.ne_of_lt (blk_lt (g := gb114) (o := .cells #[.int .i64 0, .string (⟨#[]⟩ : ByteArray), .int .i64 0, .slice none 0 0, .slice none 0 0] 26 (0, 0)) (by (with_reducible repeat (first | refine blk_drewN ?_ _ | refine blk_drew ?_ | refine blk_alloc ?_ _)); exact BK114.out)) : gb114 ≠ gb138)); have n8_ := Aside0.mk ((by rw [hg]; exact Nat.ne_of_gt (blk_lt (g := gb114) (o := .cells #[.int .i64 0, .string (⟨#[]⟩ : ByteArray), .int .i64 0, .slice none 0 0, .slice none 0 0] 26 (0, 0)) (by (with_reducible repeat (first | refine blk_drewN ?_ _ | refine blk_drew ?_ | refine blk_alloc ?_ _)); exact BK114.out)) : gb138 ≠ gb114)); have n9_ := Aside0.mk ((by rw [hg]; exact Nat.ne_of_lt (IsS78.lt (show IsS78 w0 _ g s0_0 x1001_2 from by repeat (first | (with_reducible first | exact HI0.out | apply IsS78.alloc | apply IsS78.drewN | apply IsS78.drew | apply IsS78.set_1 | refine IsS78.far ?_ NB0_114.out _) | exact HI0.out))) : g ≠ gb138)); have n10_ := Aside0.mk ((by rw [hg]; exact Nat.ne_of_gt (IsS78.lt (show IsS78 w0 _ g s0_0 x1001_2 from by repeat (first | (with_reducible first | exact HI0.out | apply IsS78.alloc | apply IsS78.drewN | apply IsS78.drew | apply IsS78.set_1 | refine IsS78.far ?_ NB0_114.out _) | exact HI0.out))) : gb138 ≠ g)); clear BK114; clear HI0; clear HK; clear HB; have BK114 := n0_; have HI0 := n1_; have HK := n2_; have HB := n3_; have BK138 := n4_; have GW138 := n5_; have GE138 := n6_; have NB114_138 := n7_; have NB138_114 := n8_; have NB0_138 := n9_; have NB138_0 := n10_; clear n0_ n1_ n2_ n3_ n4_ n5_ n6_ n7_ n8_ n9_ n10_; clear hb hbox hg; have hnb33 := NB138_114.out; have hnc33 := NB114_138.out; have hnb34 := NB138_0.out; have hnc34 := NB0_138.out; have hcz35_0 : w32.cell? ⟨gb138, 0, none⟩ = some (.int .i64 0) := (blk_cell BK138.out 0).trans rfl; have hcz35_1 : w32.cell? ⟨gb138, 1, none⟩ = some (.string (⟨#[]⟩ : ByteArray)) := (blk_cell BK138.out 1).trans rfl; have hcz35_2 : w32.cell? ⟨gb138, 2, none⟩ = some (.int .i64 0) := (blk_cell BK138.out 2).trans rfl; have hcz35_3 : w32.cell? ⟨gb138, 3, none⟩ = some (.slice none 0 0) := (blk_cell BK138.out 3).trans rfl; have hcz35_4 : w32.cell? ⟨gb138, 4, none⟩ = some (.slice none 0 0) := (blk_cell BK138.out 4).trans rfl; have hfz35_0 := blk_frozen BK138.out 0; have hfz35_1 := blk_frozen BK138.out 1; have hfz35_2 := blk_frozen BK138.out 2; have hfz35_3 := blk_frozen BK138.out 3; have hfz35_4 := blk_frozen BK138.out 4) | ((with_reducible refine gate_callee (f := 31) rfl ?_); refine goesL_ (some 27) rfl rfl Tryd.func31 (by kernel_rfl) rfl #[.pointer (some ⟨g, 0, none⟩), .int .i64 4] rfl (by (try simp only [List.map_toArray, List.map_cons, List.map_nil]); first | done | rfl | (simp only [List.length_drop, List.length_take]; rfl)) ?_; (with_reducible refine (spec_l15Rd_pick.calls kj2 g s0_0 x1001_2 4 t139 t140 w0 _ ?side1 ?side2 A31.out).mono ?_); (case side1 => repeat (first | (with_reducible first | exact HI0.out | apply IsS78.alloc | apply IsS78.drewN | apply IsS78.drew | apply IsS78.set_1 | refine IsS78.far ?_ NB0_114.out _ | refine IsS78.far ?_ NB0_138.out _) | exact HI0.out)); (case side2 => repeat (first | (with_reducible first | exact HB.out | apply below_alloc | apply pw_below_drewN | apply below_drew1 | refine below_set ?_ (IsS78.ge HI0.out) | refine below_set ?_ GE114.out | refine below_set ?_ GE138.out) | exact HB.out)); rintro e w36 ⟨rfl, hi, hb, hk⟩; refine ⟨_, rfl, ?_⟩; have n0_ := Aside0.mk (KeepBut.blk hk (g' := gb114) (o := .cells #[.int .i64 0, .string (⟨#[]⟩ : ByteArray), .int .i64 0, .slice none 0 0, .slice none 0 0] 26 (0, 0)) (by (with_reducible repeat (first | refine blk_drewN ?_ _ | refine blk_drew ?_ | refine blk_alloc ?_ _)); refine blk_far ?_ NB114_138.out _; (with_reducible repeat (first | refine blk_drewN ?_ _ | refine blk_drew ?_ | refine blk_alloc ?_ _)); refine blk_far ?_ NB114_138.out _; (with_reducible repeat (first | refine blk_drewN ?_ _ | refine blk_drew ?_ | refine blk_alloc ?_ _)); refine blk_far ?_ NB114_138.out _; (with_reducible repeat (first | refine blk_drewN ?_ _ | refine blk_drew ?_ | refine blk_alloc ?_ _)); refine blk_far ?_ NB114_138.out _; (with_reducible repeat (first | refine blk_drewN ?_ _ | refine blk_drew ?_ | refine blk_alloc ?_ _)); refine blk_far ?_ NB114_138.out _; (with_reducible repeat (first | refine blk_drewN ?_ _ | refine blk_drew ?_ | refine blk_alloc ?_ _)); exact BK114.out) NB114_0.out (by simp)); have n1_ := Aside0.mk (KeepBut.blk hk (g' := gb138) (o := .cells #[.int .i64 3, .string (⟨#[]⟩ : ByteArray), .int .i64 0, .slice none 0 0, .slice none 0 0] 26 (0, 0)) (by (with_reducible repeat (first | refine blk_drewN ?_ _ | refine blk_drew ?_ | refine blk_alloc ?_ _)); refine blk_put (cs := #[.int .i64 3, .string (⟨#[]⟩ : ByteArray), .int .i64 0, .slice none 0 0, .slice none 0 0]) ?_ 4 _ rfl; (with_reducible repeat (first | refine blk_drewN ?_ _ | refine blk_drew ?_ | refine blk_alloc ?_ _)); refine blk_put (cs := #[.int .i64 3, .string (⟨#[]⟩ : ByteArray), .int .i64 0, .slice none 0 0, .slice none 0 0]) ?_ 3 _ rfl; (with_reducible repeat (first | refine blk_drewN ?_ _ | refine blk_drew ?_ | refine blk_alloc ?_ _)); refine blk_put (cs := #[.int .i64 3, .string (⟨#[]⟩ : ByteArray), .int .i64 0, .slice none 0 0, .slice none 0 0]) ?_ 2 _ rfl; (with_reducible repeat (first | refine blk_drewN ?_ _ | refine blk_drew ?_ | refine blk_alloc ?_ _)); refine blk_put (cs := #[.int .i64 3, .string (⟨#[]⟩ : ByteArray), .int .i64 0, .slice none 0 0, .slice none 0 0]) ?_ 1 _ rfl; (with_reducible repeat (first | refine blk_drewN ?_ _ | refine blk_drew ?_ | refine blk_alloc ?_ _)); refine blk_put (cs := #[.int .i64 0, .string (⟨#[]⟩ : ByteArray), .int .i64 0, .slice none 0 0, .slice none 0 0]) ?_ 0 _ rfl; (with_reducible repeat (first | refine blk_drewN ?_ _ | refine blk_drew ?_ | refine blk_alloc ?_ _)); exact BK138.out) NB138_0.out (by simp)); have n2_ := Aside0.mk (KeepBut.trans (by repeat (first | (with_reducible first | exact HK.out | apply KeepBut.set_ | apply keep_drewN | apply keep_drew | apply keep_alloc | refine keep_far ?_ GW114.out _ | refine keep_far ?_ GW138.out _) | exact HK.out)) hk (.inl rfl)); have n3_ := Aside0.mk (hb); have n4_ := Aside0.mk (hi); clear BK114; clear BK138; clear HK; clear HB; clear HI0; have BK114 := n0_; have BK138 := n1_; have HK := n2_; have HB := n3_; have HI0 := n4_; clear n0_ n1_ n2_ n3_ n4_; (try clear hb); (try clear hb2); (try clear hk); (try clear hi)))
        go_loopg [6] kj2 (fun kq v6 w' => ∃ (x6_2 : Int) (x1001_2 : Int) (x139004_2 : List (S26)) (u139004 : Value), v6 = .int .i64 x6_2 ∧ Aside0 (spec_l1Some.l0 kq a1 x6_2 s0_0 x1001_2 3 (⟨#[]⟩ : ByteArray) 0 x139004_2 = some (r1, r2, r3, r4, r5, r6)) ∧ Aside0 (kq ≤ kj2) ∧ Aside0 (Kd.R k26 26 w' w.heap.size (fun k_ => k_ ≠ gb114 ∧ k_ ≠ gb138) u139004 x139004_2) ∧ Aside0 (w'.heap[gb114]? = some (.cells #[.int .i64 0, .string (⟨#[]⟩ : ByteArray), .int .i64 0, (.slice none 0 0), (.slice none 0 0)] 26 (0, 0))) ∧ Aside0 (w'.heap[gb138]? = some (.cells #[.int .i64 3, .string (⟨#[]⟩ : ByteArray), .int .i64 0, (.slice none 0 0), u139004] 26 (0, 0))) ∧ Aside0 (IsS78 w0 w' g s0_0 x1001_2) ∧ Aside0 (KeepBut w w' g none) ∧ Aside0 (Below w0.heap.size w0 w'))
        case atStart => exact ⟨(t139), (t140), (([] : List (S26))), (.slice none 0 0), (by first | rfl | (simp; done) | (simp [*]; done)), H', ⟨Nat.le_refl _⟩, ⟨by first | exact Kd.R_nil _ _ _ _ _ | exact Kd.N_nil _ _ _ _ _ | exact Kd.V_nil _ _ _ _ _ | exact Kd.Q_nil _ _ _ _ _ | exact Kd.S_nil _ _ _ _ _⟩, ⟨by (with_reducible repeat (first | refine blk_drewN ?_ _ | refine blk_drew ?_ | refine blk_alloc ?_ _)); exact BK114.out⟩, ⟨by (with_reducible repeat (first | refine blk_drewN ?_ _ | refine blk_drew ?_ | refine blk_alloc ?_ _)); exact BK138.out⟩, ⟨by repeat (first | (with_reducible first | exact HI0.out | apply IsS78.alloc | apply IsS78.drewN | apply IsS78.drew | apply IsS78.set_1 | refine IsS78.far ?_ NB0_114.out _ | refine IsS78.far ?_ NB0_138.out _) | exact HI0.out)⟩, ⟨by repeat (first | (with_reducible first | exact HK.out | apply KeepBut.set_ | apply keep_drewN | apply keep_drew | apply keep_alloc | refine keep_far ?_ GW114.out _ | refine keep_far ?_ GW138.out _) | exact HK.out)⟩, ⟨by repeat (first | (with_reducible first | exact HB.out | apply below_alloc | apply pw_below_drewN | apply below_drew1 | refine below_set ?_ (IsS78.ge HI0.out) | refine below_set ?_ GE114.out | refine below_set ?_ GE138.out) | exact HB.out)⟩⟩
        case round =>
          clear H'
          try clear c1
          try clear c2
          try clear p2
          try clear c3
          try clear c5
          try clear c5b0
          try clear c5b1
          try clear c6
          try clear c8
          try clear c10
          try clear c10b0
          try clear c10b1
          try clear c17
          try clear c27
          try clear c30
          try clear c31
          try clear c33
          try clear c34
          try clear hcz18_0
          try clear hcz18_1
          try clear hcz18_2
          try clear hcz18_3
          try clear hcz18_4
          try clear hcz28_0
          try clear hcz28_1
          try clear hcz28_2
          try clear hcz28_3
          try clear hcz28_4
          try clear hcz35_0
          try clear hcz35_1
          try clear hcz35_2
          try clear hcz35_3
          try clear hcz35_4
          try clear hfz18_0
          try clear hfz18_1
          try clear hfz18_2
          try clear hfz18_3
          try clear hfz18_4
          try clear hfz28_0
          try clear hfz28_1
          try clear hfz28_2
          try clear hfz28_3
          try clear hfz28_4
          try clear hfz35_0
          try clear hfz35_1
          try clear hfz35_2
          try clear hfz35_3
          try clear hfz35_4
          try clear p2
          obtain ⟨x6_2, x1001_2, x139004_2, u139004, rfl, HA, HK2, HO_139004, BK114, BK138, HI0, HK, HB⟩ := hrel
          cases gk with
          | zero => exact absurd HA.out (by simp [spec_l1Some.l0])
          | succ k2 =>
            have H := HA.out
            clear HA
            simp only [spec_l1Some.l0] at H
            by_cases c37 : x6_2 > 0
            · rw [if_pos c37] at H
              have c37b0 : decide (0 < x6_2) = true := decide_eq_true c37
              clear c37
              replace H := Option.bind_eq_some_iff.mp H
              obtain ⟨⟨t141, t142, t143, t144, t147, t150⟩, A380, H⟩ := H
              replace H : (if x139004_2.length < 1759218604441 then (spec_l1Some.l0 k2 a1 (wrap64 (x6_2 - 1)) s0_0 t150 3 (⟨#[]⟩ : ByteArray) 0 (x139004_2 ++ [(⟨t141, t142, t143, t144, t147⟩ : S26)])) else (none)) = some (r1, r2, r3, r4, r5, r6) := H
              have A38 := Aside0.mk A380
              clear A380
              by_cases c39 : x139004_2.length < 1759218604441
              · rw [if_pos c39] at H
                have LMc39 := Aside0.mk c39
                clear c39
                obtain ⟨y151, hy151⟩ : ∃ y_ : List (S26), y_ = (x139004_2 ++ [(⟨t141, t142, t143, t144, t147⟩ : S26)]) := ⟨_, rfl⟩
                replace H : (spec_l1Some.l0 k2 a1 (wrap64 (x6_2 - 1)) s0_0 t150 3 (⟨#[]⟩ : ByteArray) 0 y151) = some (r1, r2, r3, r4, r5, r6) := by first | (rw [hy151]; with_reducible exact H) | (have H2_ := (Option.bind_some _ _).symm.trans H; rw [hy151]; with_reducible exact H2_) | (have H2_ := (Option.bind_some _ _).symm.trans H; with_reducible exact H2_) | with_reducible exact H | (rw [hy151]; exact H) | exact H
                have Ny151 := Aside0.mk hy151
                clear hy151
                have H' := Aside0.mk H
                clear H
                try go_wp2
                have n0_ := Aside0.mk (Kd.R_drew HO_139004.out)
                have n1_ := Aside0.mk (blk_drew BK114.out)
                have n2_ := Aside0.mk (blk_drew BK138.out)
                have n3_ := Aside0.mk (IsS78.drew HI0.out)
                have n4_ := Aside0.mk (keep_drew HK.out)
                have n5_ := Aside0.mk (below_drew1 HB.out)
                clear HO_139004
                clear BK114
                clear BK138
                clear HI0
                clear HK
                clear HB
                have HO_139004 := n0_
                have BK114 := n1_
                have BK138 := n2_
                have HI0 := n3_
                have HK := n4_
                have HB := n5_
                clear n0_ n1_ n2_ n3_ n4_ n5_
                refine start_ (n := 10) (S := fun w' => w'.cell? ⟨gb138, 0, none⟩ = some (.int .i64 3) ∧ w'.cell? ⟨gb138, 1, none⟩ = some (.string (⟨#[]⟩ : ByteArray)) ∧ w'.cell? ⟨gb138, 2, none⟩ = some (.int .i64 0) ∧ w'.cell? ⟨gb138, 3, none⟩ = some (.slice none 0 0) ∧ w'.cell? ⟨gb138, 4, none⟩ = some (u139004)) (ds := [9]) #[false, false, false, false, false, false, false, false, false, false] (by kernel_rfl) rfl rfl ⟨(blk_cell BK138.out 0).trans rfl, (blk_cell BK138.out 1).trans rfl, (blk_cell BK138.out 2).trans rfl, (blk_cell BK138.out 3).trans rfl, (blk_cell BK138.out 4).trans rfl⟩ (fun hHeld => ?_); refine with_tabW spec_l1Some.tab9 spec_l1Some.bits9 (fun HT_ HW_ => ?_)
                generalize wr.drew = w40 at HO_139004 BK114 BK138 HI0 HK HB hHeld ⊢
                refine pure_ (i := 0) (N := some 32) (v := ?_) (a' := ?_) #[true, false, false, false, false, false, false, false, false, false] rfl rfl (any_of HT_.out (by kernel_rfl)) (fun _ _ _ h => h) (Or.inl ⟨by rfl, ?_⟩) ?_ ?_
                rotate_left
                · intro w'
                  go_simp
                  with_reducible rfl
                rotate_left
                · simp only [Act.put, List.setIfInBounds_toArray, List.set_cons_zero, List.set_cons_succ, i64_w, i32_w]
                  rfl
                refine pure_ (i := 2) (N := some 34) (v := ?_) (a' := ?_) #[true, false, true, false, false, false, false, false, false, false] rfl rfl (any_of HT_.out (by kernel_rfl)) (fun _ _ _ h => h) (Or.inl ⟨by rfl, ?_⟩) ?_ ?_
                rotate_left
                · intro w'
                  go_simp
                  with_reducible rfl
                rotate_left
                · simp only [Act.put, List.setIfInBounds_toArray, List.set_cons_zero, List.set_cons_succ, i64_w, i32_w]
                  rfl
                refine pure_ (i := 3) (N := some 35) (v := ?_) (a' := ?_) #[true, false, true, true, false, false, false, false, false, false] rfl rfl (any_of HT_.out (by kernel_rfl)) (fun _ _ _ h => h) (Or.inl ⟨by rfl, ?_⟩) ?_ ?_
                rotate_left
                · intro w'
                  go_simp
                  with_reducible rfl
                rotate_left
                · simp only [Act.put, List.setIfInBounds_toArray, List.set_cons_zero, List.set_cons_succ, i64_w, i32_w]
                  rfl
                refine pure_ (i := 4) (N := some 36) (v := ?_) (a' := ?_) #[true, false, true, true, true, false, false, false, false, false] rfl rfl (any_of HT_.out (by kernel_rfl)) (fun _ _ _ h => h) (Or.inl ⟨by rfl, ?_⟩) ?_ ?_
                rotate_left
                · intro w'
                  go_simp
                  with_reducible rfl
                rotate_left
                · simp only [Act.put, List.setIfInBounds_toArray, List.set_cons_zero, List.set_cons_succ, i64_w, i32_w]
                  rfl
                refine take_ (i := 1) (N := some 33) (v := ?_) (a' := ?_) #[true, true, true, true, true, false, false, false, false, false] rfl rfl (take_ofW HT_.out HW_.out (by kernel_rfl)) (fun _ _ _ h => h) (Or.inl ⟨by rfl, ?_⟩) hHeld ?_ ?_
                rotate_left
                · rintro w' ⟨s0, s1, s2, s3, s4⟩
                  go_simp
                  with_reducible rfl
                rotate_left
                · simp only [Act.put, List.setIfInBounds_toArray, List.set_cons_zero, List.set_cons_succ, i64_w, i32_w]
                  rfl
                refine one_ (i := 5) (N := some 37) #[true, true, true, true, true, true, false, false, false, false] rfl rfl (one_of HT_.out (by kernel_rfl)) (by decide) (fun K hK => ?_)
                refine goes_ Tryd.func30 (by kernel_rfl) rfl #[.pointer (some ⟨g, 0, none⟩), .int .i64 (wrap64 (a1 - 1))] (by rfl) rfl rfl (by (try simp only [List.map_toArray, List.map_cons, List.map_nil]); first | done | rfl | (simp only [List.length_drop, List.length_take]; rfl)) ?_
                with_reducible refine (ih k2 (by have := HJ2.out; have := HK2.out; omega) g s0_0 x1001_2 (wrap64 (a1 - 1)) t141 t142 t143 t144 t147 t150 w0 _ ?side1 ?side2 A38.out).mono ?_
                (case side1 => repeat (first | (with_reducible first | exact HI0.out | apply IsS78.alloc | apply IsS78.drewN | apply IsS78.drew | apply IsS78.set_1 | refine IsS78.far ?_ NB0_114.out _ | refine IsS78.far ?_ NB0_138.out _) | exact HI0.out))
                (case side2 => repeat (first | (with_reducible first | exact HB.out | apply below_alloc | apply pw_below_drewN | apply below_drew1 | refine below_set ?_ (IsS78.ge HI0.out) | refine below_set ?_ GE114.out | refine below_set ?_ GE138.out) | exact HB.out))
                rintro e w41 ⟨v145, v148, rfl, ho0, ho1, hi, hb, hk⟩
                refine ⟨_, rfl, ?_⟩
                have n0_ := Aside0.mk (Kd.R_mono (Kd.R_told (Kd.R_told (Kd.R_oldK (IsS78.apart (show IsS78 w0 _ g s0_0 x1001_2 from by repeat (first | (with_reducible first | exact HI0.out | apply IsS78.alloc | apply IsS78.drewN | apply IsS78.drew | apply IsS78.set_1 | refine IsS78.far ?_ NB0_114.out _ | refine IsS78.far ?_ NB0_138.out _) | exact HI0.out)) (by (with_reducible repeat (first | apply Kd.R_alloc | apply Kd.R_drewN | apply Kd.R_drew)); exact HO_139004.out) (by decide)) hk) (Kd.R_base ho0)) (Kd.R_base ho1)) (fun _ h_ => h_.1))
                have n1_ := Aside0.mk (KeepBut.blk hk (g' := gb114) (o := .cells #[.int .i64 0, .string (⟨#[]⟩ : ByteArray), .int .i64 0, .slice none 0 0, .slice none 0 0] 26 (0, 0)) (by (with_reducible repeat (first | refine blk_drewN ?_ _ | refine blk_drew ?_ | refine blk_alloc ?_ _)); exact BK114.out) NB114_0.out (by simp))
                have n2_ := Aside0.mk (KeepBut.blk hk (g' := gb138) (o := .cells #[.int .i64 3, .string (⟨#[]⟩ : ByteArray), .int .i64 0, .slice none 0 0, u139004] 26 (0, 0)) (by (with_reducible repeat (first | refine blk_drewN ?_ _ | refine blk_drew ?_ | refine blk_alloc ?_ _)); exact BK138.out) NB138_0.out (by simp))
                have n3_ := Aside0.mk (Kd.R_lower ho0 (keep_size (w := w) (g := g) (row := none) (by repeat (first | (with_reducible first | exact HK.out | apply KeepBut.set_ | apply keep_drewN | apply keep_drew | apply keep_alloc | refine keep_far ?_ GW114.out _ | refine keep_far ?_ GW138.out _) | exact HK.out))))
                have n4_ := Aside0.mk (Kd.R_lower (Kd.R_newB (Kd.R_newB (Kd.R_new' ho1 (Kd.R_lt (by (with_reducible repeat (first | apply Kd.R_alloc | apply Kd.R_drewN | apply Kd.R_drew)); exact HO_139004.out))) (g := gb114) (o := .cells #[.int .i64 0, .string (⟨#[]⟩ : ByteArray), .int .i64 0, .slice none 0 0, .slice none 0 0] 26 (0, 0)) (by (with_reducible repeat (first | refine blk_drewN ?_ _ | refine blk_drew ?_ | refine blk_alloc ?_ _)); exact BK114.out)) (g := gb138) (o := .cells #[.int .i64 3, .string (⟨#[]⟩ : ByteArray), .int .i64 0, .slice none 0 0, u139004] 26 (0, 0)) (by (with_reducible repeat (first | refine blk_drewN ?_ _ | refine blk_drew ?_ | refine blk_alloc ?_ _)); exact BK138.out)) (keep_size (w := w) (g := g) (row := none) (by repeat (first | (with_reducible first | exact HK.out | apply KeepBut.set_ | apply keep_drewN | apply keep_drew | apply keep_alloc | refine keep_far ?_ GW114.out _ | refine keep_far ?_ GW138.out _) | exact HK.out))))
                have n5_ := Aside0.mk (KeepBut.trans (by repeat (first | (with_reducible first | exact HK.out | apply KeepBut.set_ | apply keep_drewN | apply keep_drew | apply keep_alloc | refine keep_far ?_ GW114.out _ | refine keep_far ?_ GW138.out _) | exact HK.out)) hk (.inl rfl))
                have n6_ := Aside0.mk (hb)
                have n7_ := Aside0.mk (hi)
                clear HO_139004
                clear BK114
                clear BK138
                clear HK
                clear HB
                clear HI0
                have HO_139004 := n0_
                have BK114 := n1_
                have BK138 := n2_
                have HO146 := n3_
                have HO149 := n4_
                have HK := n5_
                have HB := n6_
                have HI0 := n7_
                clear n0_ n1_ n2_ n3_ n4_ n5_ n6_ n7_
                (try clear hb)
                (try clear hb2)
                (try clear hk)
                (try clear hi)
                (try clear ho0)
                (try clear ho1)
                obtain ⟨Ao43, co43, eo43⟩ := Kd.R_slice HO146.out
                (first | subst eo43 | (injection eo43 with f1_ f2_ f3_; have f4_ := f1_.symm; have f5_ := f3_.symm; clear f1_ f2_ f3_; subst f4_; subst f5_))
                obtain ⟨Ao44, co44, eo44⟩ := Kd.R_slice HO149.out
                (first | subst eo44 | (injection eo44 with f1_ f2_ f3_; have f4_ := f1_.symm; have f5_ := f3_.symm; clear f1_ f2_ f3_; subst f4_; subst f5_))
                refine hK.out _ _ ⟨(blk_cell BK138.out 0).trans rfl, (blk_cell BK138.out 1).trans rfl, (blk_cell BK138.out 2).trans rfl, (blk_cell BK138.out 3).trans rfl, (blk_cell BK138.out 4).trans rfl⟩ (fun hHeld => ?_)
                clear hK K
                refine norm_ (a' := ?_) ?_ ?_
                rotate_left
                · show Act.put _ (some 37) _ = _
                  simp only [Act.put, List.setIfInBounds_toArray, List.set_cons_zero, List.set_cons_succ, i64_w, i32_w]
                  rfl
                refine one_ (i := 6) (N := some 38) #[true, true, true, true, true, true, true, false, false, false] rfl rfl (one_of HT_.out (by kernel_rfl)) (by decide) (fun K hK => ?_)
                refine value_ (w1 := ?_) (v := ?_) (by rfl) rfl ?_ ?_
                rotate_left 2
                · go_simp
                  constructor
                  · rfl
                  · rfl
                refine hK.out _ _ ⟨(blk_cell (blk_alloc BK138.out _) 0).trans rfl, (blk_cell (blk_alloc BK138.out _) 1).trans rfl, (blk_cell (blk_alloc BK138.out _) 2).trans rfl, (blk_cell (blk_alloc BK138.out _) 3).trans rfl, (blk_cell (blk_alloc BK138.out _) 4).trans rfl⟩ (fun hHeld => ?_)
                clear hK K
                refine norm_ (a' := ?_) ?_ ?_
                rotate_left
                · show Act.put _ (some 38) _ = _
                  simp only [Act.put, List.setIfInBounds_toArray, List.set_cons_zero, List.set_cons_succ, i64_w, i32_w]
                  rfl
                refine one_ (i := 7) (N := some 39) #[true, true, true, true, true, true, true, true, false, false] rfl rfl (one_of HT_.out (by kernel_rfl)) (by decide) (fun K hK => ?_)
                refine Kd.R_append_step k26 w.heap.size (by rfl) (.tmp 33) (.tmp 38) 24 26 (.agg #[(.int .i64 0), (.string ⟨#[]⟩), (.int .i64 0), (.slice none 0 0), (.slice none 0 0)]) 80 rfl Tryd.underlying24 info26 rfl (by decide) (by omega) u139004 x139004_2 (⟨t141, t142, t143, t144, t147⟩ : S26) [.int .i64 t141, .string t142, .int .i64 t143, .slice Ao43 t144.length co43, .slice Ao44 t147.length co44] (fun k_ => k_ ≠ gb114 ∧ k_ ≠ gb138) (fun k_ => ((fun k_ => k_ ≠ gb114 ∧ k_ ≠ gb138)) k_ ∧ some k_ ≠ (u139004 : Value).ownBlock) rfl rfl ?aP (fun _ hk => hk) ?aF ?aO (Below.refl _ _) ?aS ?aL ?_
                (case aP => exact k26_mkM _ _ _ (⟨t141, t142, t143, t144, t147⟩ : S26) (Kd.R_mono (Kd.R_types (Kd.R_types (Kd.R_apart' (HO146.out) (Kd.R_typed HO_139004.out) (by decide)) BK114.out (by decide)) BK138.out (by decide)) (fun k_ hk => ⟨⟨hk.1.2, hk.2⟩, hk.1.1.2⟩)) (Kd.R_mono (HO149.out) (fun k_ hk => ⟨⟨hk.1.2, hk.2⟩, hk.1.1.2⟩)))
                (case aF => exact (fun k_ hk => ⟨Kd.freshB (g := gb114) (o := .cells #[.int .i64 0, .string (⟨#[]⟩ : ByteArray), .int .i64 0, .slice none 0 0, .slice none 0 0] 26 (0, 0)) (by (with_reducible repeat (first | refine blk_drewN ?_ _ | refine blk_drew ?_ | refine blk_alloc ?_ _)); exact BK114.out) k_ hk, Kd.freshB (g := gb138) (o := .cells #[.int .i64 3, .string (⟨#[]⟩ : ByteArray), .int .i64 0, .slice none 0 0, u139004] 26 (0, 0)) (by (with_reducible repeat (first | refine blk_drewN ?_ _ | refine blk_drew ?_ | refine blk_alloc ?_ _)); exact BK138.out) k_ hk⟩))
                (case aO => exact (by (with_reducible repeat (first | apply Kd.R_alloc | apply Kd.R_drewN | apply Kd.R_drew)); exact Kd.R_mono HO_139004.out (fun _ hk => ⟨hk.1.1.1, hk.1.1.2⟩)))
                (case aS => exact (keep_size (w := w) (g := g) (row := none) (by repeat (first | (with_reducible first | exact HK.out | apply KeepBut.set_ | apply keep_drewN | apply keep_drew | apply keep_alloc | refine keep_far ?_ GW114.out _ | refine keep_far ?_ GW138.out _) | exact HK.out))))
                (case aL => have := LMc39.out; omega)
                intro v152 w42 ho hb hg hat
                rw [← Ny151.out] at ho
                have n0_ := Aside0.mk (blk_grown (g := gb114) (o := .cells #[.int .i64 0, .string (⟨#[]⟩ : ByteArray), .int .i64 0, .slice none 0 0, .slice none 0 0] 26 (0, 0)) (by (with_reducible repeat (first | refine blk_drewN ?_ _ | refine blk_drew ?_ | refine blk_alloc ?_ _)); exact BK114.out) hg (Kd.R_away HO_139004.out (fun _ hk => hk.1.1.1)))
                have n1_ := Aside0.mk (blk_grown (g := gb138) (o := .cells #[.int .i64 3, .string (⟨#[]⟩ : ByteArray), .int .i64 0, .slice none 0 0, u139004] 26 (0, 0)) (by (with_reducible repeat (first | refine blk_drewN ?_ _ | refine blk_drew ?_ | refine blk_alloc ?_ _)); exact BK138.out) hg (Kd.R_away HO_139004.out (fun _ hk => hk.1.1.2)))
                have n2_ := Aside0.mk (IsS78.grown (by repeat (first | (with_reducible first | exact HI0.out | apply IsS78.alloc | apply IsS78.drewN | apply IsS78.drew | apply IsS78.set_1 | refine IsS78.far ?_ NB0_114.out _ | refine IsS78.far ?_ NB0_138.out _) | exact HI0.out)) hg (IsS78.own_ne HI0.out HO_139004.out (by decide)))
                have n3_ := Aside0.mk (below_weaken (by repeat (first | (with_reducible first | exact HB.out | apply below_alloc | apply pw_below_drewN | apply below_drew1 | refine below_set ?_ (IsS78.ge HI0.out) | refine below_set ?_ GE114.out | refine below_set ?_ GE138.out) | exact HB.out)) HL.out hb)
                have n4_ := Aside0.mk (KeepBut.trans (by repeat (first | (with_reducible first | exact HK.out | apply KeepBut.set_ | apply keep_drewN | apply keep_drew | apply keep_alloc | refine keep_far ?_ GW114.out _ | refine keep_far ?_ GW138.out _) | exact HK.out)) (KeepBut.of_grown hg g) (Kd.R_base2 HO_139004.out))
                have n5_ := Aside0.mk (ho)
                clear BK114
                clear BK138
                clear HI0
                clear HB
                clear HK
                clear HO_139004
                clear HO146
                clear HO149
                have BK114 := n0_
                have BK138 := n1_
                have HI0 := n2_
                have HB := n3_
                have HK := n4_
                have HO153 := n5_
                clear n0_ n1_ n2_ n3_ n4_ n5_
                clear ho hb hg hat
                obtain ⟨Ao45, co45, eo45⟩ := Kd.R_slice HO153.out
                (first | subst eo45 | (injection eo45 with f1_ f2_ f3_; have f4_ := f1_.symm; have f5_ := f3_.symm; clear f1_ f2_ f3_; subst f4_; subst f5_))
                refine hK.out _ _ ⟨(blk_cell BK138.out 0).trans rfl, (blk_cell BK138.out 1).trans rfl, (blk_cell BK138.out 2).trans rfl, (blk_cell BK138.out 3).trans rfl, (blk_cell BK138.out 4).trans rfl⟩ (fun hHeld => ?_)
                clear hK K
                refine norm_ (a' := ?_) ?_ ?_
                rotate_left
                · show Act.put _ (some 39) _ = _
                  simp only [Act.put, List.setIfInBounds_toArray, List.set_cons_zero, List.set_cons_succ, i64_w, i32_w]
                  rfl
                refine pure_ (i := 8) (N := some 40) (v := ?_) (a' := ?_) #[true, true, true, true, true, true, true, true, true, false] rfl rfl (any_of HT_.out (by kernel_rfl)) (fun _ _ _ h => h) (Or.inl ⟨by rfl, ?_⟩) ?_ ?_
                rotate_left
                · intro w'
                  go_simp
                  with_reducible rfl
                rotate_left
                · simp only [Act.put, List.setIfInBounds_toArray, List.set_cons_zero, List.set_cons_succ, i64_w, i32_w]
                  rfl
                refine last_ (i := 9) (N := none) #[true, true, true, true, true, true, true, true, true, true] rfl rfl (one_of HT_.out (by kernel_rfl)) (by decide) (fun K hK => ?_)
                have hs46 : w42.cell? ⟨gb138, 4, none⟩ = some (u139004) := (blk_cell BK138.out 4).trans rfl
                have hfs46 := blk_frozen BK138.out 4
                have hns46_0 := NB114_138.out
                have hms46_0 := NB138_114.out
                refine skip_ (w1 := ?_) (by rfl) rfl ?_ ?_
                rotate_left
                · go_simp
                  rfl
                refine hK.out _ _ ?_
                clear hK K
                refine done_ (done_of HT_.out (by kernel_rfl)) ?_
                try go_wp2
                go_roundg k2
                case measure => have := HJ2.out; have := HK2.out; omega
                case rel => exact ⟨(wrap64 (x6_2 - 1)), (t150), (y151), (.slice Ao45 y151.length co45), (by first | rfl | (simp; done) | (simp [*]; done)), H', ⟨by have := HJ2.out; have := HK2.out; omega⟩, ⟨by (with_reducible repeat (first | apply Kd.R_alloc | apply Kd.R_drewN | apply Kd.R_drew)); exact Kd.R_mono (Kd.R_far (p := ⟨gb138, 4, none⟩) (Kd.R_mono HO153.out (fun k_ hk => (⟨hk, hk.2⟩ : _ ∧ k_ ≠ gb138))) (fun _ hk => hk.2) (.slice Ao45 y151.length co45)) (fun _ hk => ⟨hk.1.1, hk.1.2⟩)⟩, ⟨by (with_reducible repeat (first | refine blk_drewN ?_ _ | refine blk_drew ?_ | refine blk_alloc ?_ _)); refine blk_far ?_ NB114_138.out _; (with_reducible repeat (first | refine blk_drewN ?_ _ | refine blk_drew ?_ | refine blk_alloc ?_ _)); exact BK114.out⟩, ⟨by (with_reducible repeat (first | refine blk_drewN ?_ _ | refine blk_drew ?_ | refine blk_alloc ?_ _)); refine blk_put (cs := #[.int .i64 3, .string (⟨#[]⟩ : ByteArray), .int .i64 0, .slice none 0 0, u139004]) ?_ 4 _ rfl; (with_reducible repeat (first | refine blk_drewN ?_ _ | refine blk_drew ?_ | refine blk_alloc ?_ _)); exact BK138.out⟩, ⟨by repeat (first | (with_reducible first | exact HI0.out | apply IsS78.alloc | apply IsS78.drewN | apply IsS78.drew | apply IsS78.set_1 | refine IsS78.far ?_ NB0_114.out _ | refine IsS78.far ?_ NB0_138.out _) | exact HI0.out)⟩, ⟨by repeat (first | (with_reducible first | exact HK.out | apply KeepBut.set_ | apply keep_drewN | apply keep_drew | apply keep_alloc | refine keep_far ?_ GW114.out _ | refine keep_far ?_ GW138.out _) | exact HK.out)⟩, ⟨by repeat (first | (with_reducible first | exact HB.out | apply below_alloc | apply pw_below_drewN | apply below_drew1 | refine below_set ?_ (IsS78.ge HI0.out) | refine below_set ?_ GE114.out | refine below_set ?_ GE138.out) | exact HB.out)⟩⟩
              · rw [if_neg c39] at H
                exact absurd H (by simp)
            · rw [if_neg c37] at H
              have c37b0 : decide (0 < x6_2) = false := decide_eq_false c37
              clear c37
              simp only [Option.some.injEq, Prod.mk.injEq] at H
              obtain ⟨rfl, rfl, rfl, rfl, rfl, rfl⟩ := H
              have hnb47 := NB138_114.out
              have hnc47 := NB114_138.out
              have hnb48 := NB138_0.out
              have hnc48 := NB0_138.out
              have hcz49_0 : wr.cell? ⟨gb138, 0, none⟩ = some (.int .i64 3) := (blk_cell BK138.out 0).trans rfl
              have hcz49_1 : wr.cell? ⟨gb138, 1, none⟩ = some (.string (⟨#[]⟩ : ByteArray)) := (blk_cell BK138.out 1).trans rfl
              have hcz49_2 : wr.cell? ⟨gb138, 2, none⟩ = some (.int .i64 0) := (blk_cell BK138.out 2).trans rfl
              have hcz49_3 : wr.cell? ⟨gb138, 3, none⟩ = some (.slice none 0 0) := (blk_cell BK138.out 3).trans rfl
              have hcz49_4 : wr.cell? ⟨gb138, 4, none⟩ = some (u139004) := (blk_cell BK138.out 4).trans rfl
              have hfz49_0 := blk_frozen BK138.out 0
              have hfz49_1 := blk_frozen BK138.out 1
              have hfz49_2 := blk_frozen BK138.out 2
              have hfz49_3 := blk_frozen BK138.out 3
              have hfz49_4 := blk_frozen BK138.out 4
              have hnb50 := NB114_0.out
              have hnc50 := NB0_114.out
              have hcz51_0 : wr.cell? ⟨gb114, 0, none⟩ = some (.int .i64 0) := (blk_cell BK114.out 0).trans rfl
              have hcz51_1 : wr.cell? ⟨gb114, 1, none⟩ = some (.string (⟨#[]⟩ : ByteArray)) := (blk_cell BK114.out 1).trans rfl
              have hcz51_2 : wr.cell? ⟨gb114, 2, none⟩ = some (.int .i64 0) := (blk_cell BK114.out 2).trans rfl
              have hcz51_3 : wr.cell? ⟨gb114, 3, none⟩ = some (.slice none 0 0) := (blk_cell BK114.out 3).trans rfl
              have hcz51_4 : wr.cell? ⟨gb114, 4, none⟩ = some (.slice none 0 0) := (blk_cell BK114.out 4).trans rfl
              have hfz51_0 := blk_frozen BK114.out 0
              have hfz51_1 := blk_frozen BK114.out 1
              have hfz51_2 := blk_frozen BK114.out 2
              have hfz51_3 := blk_frozen BK114.out 3
              have hfz51_4 := blk_frozen BK114.out 4
              obtain ⟨Ao52, co52, eo52⟩ := Kd.R_slice HO_139004.out
              subst eo52
              go_wp2
              refine bodyPost_ret (results_cell_row rfl _ _ gb114 26 #[.int .i64 3, .string (⟨#[]⟩ : ByteArray), .int .i64 0, .slice none 0 0, .slice Ao52 x139004_2.length co52] (0, 0) _ rfl (by (with_reducible repeat (first | refine blk_drewN ?_ _ | refine blk_drew ?_ | refine blk_alloc ?_ _)); refine blk_put (cs := #[.int .i64 3, .string (⟨#[]⟩ : ByteArray), .int .i64 0, .slice none 0 0, .slice none 0 0]) ?_ 4 _ rfl; (with_reducible repeat (first | refine blk_drewN ?_ _ | refine blk_drew ?_ | refine blk_alloc ?_ _)); refine blk_put (cs := #[.int .i64 3, .string (⟨#[]⟩ : ByteArray), .int .i64 0, .slice none 0 0, .slice none 0 0]) ?_ 3 _ rfl; (with_reducible repeat (first | refine blk_drewN ?_ _ | refine blk_drew ?_ | refine blk_alloc ?_ _)); refine blk_put (cs := #[.int .i64 3, .string (⟨#[]⟩ : ByteArray), .int .i64 0, .slice none 0 0, .slice none 0 0]) ?_ 2 _ rfl; (with_reducible repeat (first | refine blk_drewN ?_ _ | refine blk_drew ?_ | refine blk_alloc ?_ _)); refine blk_put (cs := #[.int .i64 3, .string (⟨#[]⟩ : ByteArray), .int .i64 0, .slice none 0 0, .slice none 0 0]) ?_ 1 _ rfl; (with_reducible repeat (first | refine blk_drewN ?_ _ | refine blk_drew ?_ | refine blk_alloc ?_ _)); refine blk_put (cs := #[.int .i64 0, .string (⟨#[]⟩ : ByteArray), .int .i64 0, .slice none 0 0, .slice none 0 0]) ?_ 0 _ rfl; (with_reducible repeat (first | refine blk_drewN ?_ _ | refine blk_drew ?_ | refine blk_alloc ?_ _)); exact BK114.out) Tryd.underlying26 rfl (by kernel_rfl)) rfl ?_
              exact ⟨_, _, by first | rfl | (simp [errW_none, errW_some] <;> rfl) | (simp [*, errW_none, errW_some] <;> rfl), by first | exact Kd.R_nil _ _ _ _ _ | exact Kd.N_nil _ _ _ _ _ | exact Kd.V_nil _ _ _ _ _ | exact Kd.Q_nil _ _ _ _ _ | exact Kd.S_nil _ _ _ _ _, by (with_reducible repeat (first | apply Kd.R_alloc | apply Kd.R_drewN | apply Kd.R_drew)); exact Kd.R_mono (Kd.R_far (p := ⟨gb114, 4, none⟩) (Kd.R_far (p := ⟨gb114, 3, none⟩) (Kd.R_far (p := ⟨gb114, 2, none⟩) (Kd.R_far (p := ⟨gb114, 1, none⟩) (Kd.R_far (p := ⟨gb114, 0, none⟩) (Kd.R_mono HO_139004.out (fun k_ hk => (⟨hk, hk.1⟩ : _ ∧ k_ ≠ gb114))) (fun _ hk => hk.2) (.int .i64 3)) (fun _ hk => hk.2) (.string (⟨#[]⟩ : ByteArray))) (fun _ hk => hk.2) (.int .i64 0)) (fun _ hk => hk.2) (.slice none 0 0)) (fun _ hk => hk.2) (.slice Ao52 x139004_2.length co52)) (fun _ hk => (by simp [Value.ownBlock])), by repeat (first | (with_reducible first | exact HI0.out | apply IsS78.alloc | apply IsS78.drewN | apply IsS78.drew | apply IsS78.set_1 | refine IsS78.far ?_ NB0_114.out _ | refine IsS78.far ?_ NB0_138.out _) | exact HI0.out), by repeat (first | (with_reducible first | exact HB.out | apply below_alloc | apply pw_below_drewN | apply below_drew1 | refine below_set ?_ (IsS78.ge HI0.out) | refine below_set ?_ GE114.out | refine below_set ?_ GE138.out) | exact HB.out), by repeat (first | (with_reducible first | exact HK.out | apply KeepBut.set_ | apply keep_drewN | apply keep_drew | apply keep_alloc | refine keep_far ?_ GW114.out _ | refine keep_far ?_ GW138.out _) | exact HK.out)⟩

end Go.Proofs.YteeepenncddnjaaDoor.Q
end
section
namespace Go.Proofs.YteeepenncddnjaaDoor
open Go.RowKit Go.Proofs.YteeepenncddnjaaDoorW.PrintWords Go.Proofs.YteeepenncddnjaaDoor.Q
set_option linter.unusedVariables false
theorem ev_name (a : ByteArray) : spec_l1Name.f a = some ((1 : Int), a, (0 : Int), ([] : List Int), ([] : List Fm)) := rfl
theorem ev_some {s : List Int} (hs : Bts s) : ∀ d : Nat, d ≤ 4 → ∀ p : Nat, p + Bn d ≤ 900000 →
    ∃ (x : Fm) (q : Nat), q ≤ p + Bn d ∧ x.tot ≤ Bn d ∧ Ev (fun k => spec_l1Some.f k s (p : Int) (d : Int)) (x.f0, x.f1, x.f2, x.f3, x.f4, (q : Int)) := by
  have leaf : ∀ (d : Nat) (p : Nat), p ≤ 900002 → ∃ (x : Fm) (q : Nat), q ≤ p + 2 ∧ x.tot ≤ 13 ∧ Ev (fun k => spec_l1Some.j0 k (d : Int) true s (p : Int)) (x.f0, x.f1, x.f2, x.f3, x.f4, (q : Int)) := by
    intro d p hp
    obtain ⟨v, hv, e1⟩ := ev_pick hs p (by omega) 4 (by omega)
    by_cases h0 : v = 0
    · obtain ⟨n, hn, e2⟩ := ev_num hs (p + 1) (by omega) [0, 1, 2, 7, 42, 999] (by simp) (by simp)
      refine ⟨⟨2, ⟨#[]⟩, n, [], []⟩, p + 2, by omega, by simp [Fm.tot, totL, ByteArray.size], ?_⟩
      refine Ev.step (fun k => by rw [spec_l1Some.j0]) (Ev.pos rfl (Ev.bind e1 (Ev.pos h0 (Ev.bind e2 ?_))))
      exact Ev.now _
    · obtain ⟨n, hn, e2⟩ := ev_of hs (p + 1) (by omega) nms (by simp) (by simp)
      refine ⟨⟨1, n, 0, [], []⟩, p + 2, by omega, ?_, ?_⟩
      rotate_left
      · refine Ev.step (fun k => by rw [spec_l1Some.j0]) (Ev.pos rfl (Ev.bind e1 (Ev.neg h0 (Ev.bind e2 (Ev.bind (g := fun _ => _) (Ev.some (ev_name n)) ?_)))))
        exact Ev.now _
      · have := names_small n hn
        simp [Fm.tot, totL]; omega
  intro d
  induction d with
  | zero =>
    intro hd p hp
    obtain ⟨x, q, h1, h2, h3⟩ := leaf 0 p (by omega)
    refine ⟨x, q, by have : Bn 0 = 13 := rfl; omega, h2, Ev.step (fun k => by rw [spec_l1Some.f]) ?_⟩
    exact Ev.pos rfl h3
  | succ d ih =>
    intro hd p hp
    have hB := Bn_pos d
    have hBs : Bn (d + 1) = 13 + 3 * (Bn d + 1) := rfl
    have hB4 := Bn_le (d := d) (by omega)
    obtain ⟨v, hv, e1⟩ := ev_pick hs p (by omega) 3 (by omega)
    cases hz : (v == 0) with
    | true =>
      obtain ⟨x, q, h1, h2, h3⟩ := leaf (d + 1) (p + 1) (by omega)
      refine ⟨x, q, by have : Bn (d + 1) = 13 + 3 * (Bn d + 1) := rfl; omega, by have : Bn (d + 1) = 13 + 3 * (Bn d + 1) := rfl; omega, Ev.step (fun k => by rw [spec_l1Some.f]) (Ev.neg (by omega) (Ev.bind e1 ?_))⟩
      dsimp only
      rw [hz]
      exact h3
    | false =>
      obtain ⟨n, hn, e2⟩ := ev_pick hs (p + 1) (by omega) 4 (by omega)
      obtain ⟨m, rfl⟩ := Int.eq_ofNat_of_zero_le (hn (by omega)).1
      have hm : m ≤ 3 := by have := (hn (by omega)).2; omega
      obtain ⟨r, ⟨x, q, rfl, h1, h2⟩, hr⟩ := ev_loop (L := fun k (t : Int × Int × List Fm) => spec_l1Some.l0 k ((d + 1 : Nat) : Int) t.1 s t.2.1 3 ⟨#[]⟩ 0 t.2.2)
        (fun i t => ∃ q : Nat, t.1 = ((m - i : Nat) : Int) ∧ t.2.1 = (q : Int) ∧ q ≤ p + 2 + i * Bn d ∧ totL t.2.2 ≤ i * (Bn d + 1) ∧ t.2.2.length = i) m
        (fun r => ∃ (x : Fm) (q : Nat), r = (x.f0, x.f1, x.f2, x.f3, x.f4, (q : Int)) ∧ q ≤ p + 2 + m * Bn d ∧ x.tot ≤ m * (Bn d + 1)) (by
          rintro i ⟨t1, t2, t3⟩ hi ⟨q, rfl, rfl, hq, ht, hl⟩
          dsimp only at ht hl hq
          have hi3 : i * Bn d ≤ 2 * Bn d := Nat.mul_le_mul_right _ (by omega)
          obtain ⟨y, q', h1, h2, h3⟩ := ih (by omega) q (by omega)
          refine ⟨(((m - (i + 1) : Nat) : Int), (q' : Int), t3 ++ [y]), ⟨q', rfl, rfl, ?_, ?_, by simp [hl]⟩, fun r hr => ?_⟩
          · rw [Nat.succ_mul]; omega
          · rw [totL_append, Nat.succ_mul]; simp only [totL]; omega
          · refine Ev.step (fun k => by rw [spec_l1Some.l0]) (Ev.pos (by show ((m - i : Nat) : Int) > 0; omega) ?_)
            rw [show wrap64 (((d + 1 : Nat) : Int) - 1) = (d : Int) from by rw [wr_in (by omega) (by omega)]; omega]
            refine Ev.bind h3 (Ev.pos (by show t3.length < _; change t3.length = i at hl; omega) ?_)
            dsimp only
            rw [Fm.eta, show wrap64 (((m - i : Nat) : Int) - 1) = ((m - (i + 1) : Nat) : Int) from by rw [wr_in (by omega) (by omega)]; omega]
            exact hr) (by
          rintro ⟨t1, t2, t3⟩ ⟨q, rfl, rfl, hq, ht, hl⟩
          refine ⟨_, ⟨⟨3, ⟨#[]⟩, 0, [], t3⟩, q, rfl, hq, by simp [Fm.tot, ByteArray.size]; omega⟩, Ev.step (fun k => by rw [spec_l1Some.l0]) (Ev.neg (by simp) (Ev.now _))⟩)
        (((m : Nat) : Int), ((p + 2 : Nat) : Int), []) ⟨p + 2, by simp, rfl, by omega, by simp [totL], rfl⟩
      have hm3 : m * Bn d ≤ 3 * Bn d := Nat.mul_le_mul_right _ hm
      have hm4 : m * (Bn d + 1) ≤ 3 * (Bn d + 1) := Nat.mul_le_mul_right _ hm
      refine ⟨x, q, by have : Bn (d + 1) = 13 + 3 * (Bn d + 1) := rfl; omega, by have : Bn (d + 1) = 13 + 3 * (Bn d + 1) := rfl; omega, Ev.step (fun k => by rw [spec_l1Some.f]) (Ev.neg (by omega) (Ev.bind e1 ?_))⟩
      dsimp only
      rw [hz]
      refine Ev.step (fun k => by rw [spec_l1Some.j0]) (Ev.neg (by simp) (Ev.bind e2 ?_))
      exact hr
end Go.Proofs.YteeepenncddnjaaDoor
end
section
namespace Go.Proofs.YteeepenncddnjaaDoor
open Go.RowKit Go.Proofs.YteeepenncddnjaaDoorW.PrintWords Go.Proofs.YteeepenncddnjaaDoorW.PrintLast Go.Proofs.YteeepenncddnjaaDoorW.PrintMore
set_option linter.unusedVariables false
set_option linter.unusedSimpArgs false
@[reducible] def fmV (x : Fm) (A3 : Option Addr) (c3 : Nat) (A4 : Option Addr) (c4 : Nat) : Array Value := #[.int .i64 x.f0, .string x.f1, .int .i64 x.f2, .slice A3 x.f3.length c3, .slice A4 x.f4.length c4]
/-- A form is handed back. -/
def GetF (w : World) (x : Fm) (e : Ending) (w' : World) : Prop := ∃ A3 c3 A4 c4, e = .returned (.agg #[.int .i64 x.f0, .string x.f1, .int .i64 x.f2, .slice A3 x.f3.length c3, .slice A4 x.f4.length c4]) ∧ FmIn w' x A3 c3 A4 c4 ∧ Below w.heap.size w w'
/-- A form and another value are handed back. -/
def GetFV (w : World) (x : Fm) (v : Value) (e : Ending) (w' : World) : Prop := ∃ A3 c3 A4 c4, e = .returned (.tuple #[.agg #[.int .i64 x.f0, .string x.f1, .int .i64 x.f2, .slice A3 x.f3.length c3, .slice A4 x.f4.length c4], v]) ∧ FmIn w' x A3 c3 A4 c4 ∧ Below w.heap.size w w'
theorem FmIn.ofR {w : World} {x : Fm} {b b' : Nat} {ok ok' : Nat → Prop} {v3 v4 : Value} (h3 : kI.R 3 w b ok v3 x.f3) (h4 : kF.R 26 w b' ok' v4 x.f4) : ∃ A3 c3 A4 c4, v3 = .slice A3 x.f3.length c3 ∧ v4 = .slice A4 x.f4.length c4 ∧ FmIn w x A3 c3 A4 c4 := by
  obtain ⟨A3, c3, rfl, l3, g3⟩ := Kd.R_reads h3
  obtain ⟨A4, c4, rfl, l4, g4⟩ := Kd.R_reads h4
  exact ⟨A3, c3, A4, c4, rfl, rfl, l3, g3, l4, g4⟩
end Go.Proofs.YteeepenncddnjaaDoor
end
section
namespace Go.Proofs.YteeepenncddnjaaDoor
open Go.RowKit Go.Proofs.YteeepenncddnjaaDoorW.PrintWords Go.Proofs.YteeepenncddnjaaDoorW.PrintLast Go.Proofs.YteeepenncddnjaaDoorW.PrintMore
set_option linter.unusedVariables false
set_option linter.unusedSimpArgs false
/-- The form x reads in w, and in every world in which the blocks from lo on stand as_ in w. -/
structure FmS (lo : Nat) (w : World) (x : Fm) (A3 : Option Addr) (c3 : Nat) (A4 : Option Addr) (c4 : Nat) : Prop where mk ::
  out : ∀ W : World, (∀ b, lo ≤ b → b < w.heap.size → W.heap[b]? = w.heap[b]?) → FmIn W x A3 c3 A4 c4
theorem FmS.now {lo : Nat} {w : World} {x : Fm} {A3 : Option Addr} {c3 : Nat} {A4 : Option Addr} {c4 : Nat} (h : FmS lo w x A3 c3 A4 c4) : FmIn w x A3 c3 A4 c4 := h.out w (fun _ _ _ => rfl)
theorem FmS.move {lo : Nat} {w W : World} {x : Fm} {A3 : Option Addr} {c3 : Nat} {A4 : Option Addr} {c4 : Nat} (h : FmS lo w x A3 c3 A4 c4) (hs : w.heap.size ≤ W.heap.size) (hm : ∀ b, lo ≤ b → b < w.heap.size → W.heap[b]? = w.heap[b]?) : FmS lo W x A3 c3 A4 c4 :=
  ⟨fun W' h' => h.out W' (fun b h1 h2 => (h' b h1 (Nat.lt_of_lt_of_le h2 hs)).trans (hm b h1 h2))⟩
theorem FmS.later {lo : Nat} {w W : World} {x : Fm} {A3 : Option Addr} {c3 : Nat} {A4 : Option Addr} {c4 : Nat} (h : FmS lo w x A3 c3 A4 c4) (hb : Below w.heap.size w W) : FmS lo W x A3 c3 A4 c4 := h.move hb.size (fun b _ hlt => hb.block b hlt)
theorem FmS.keep {lo g : Nat} {w W : World} {x : Fm} {A3 : Option Addr} {c3 : Nat} {A4 : Option Addr} {c4 : Nat} (h : FmS lo w x A3 c3 A4 c4) (hk : KeepBut w W g none) (hg : g < lo) : FmS lo W x A3 c3 A4 c4 := h.move hk.1 (fun b h1 hlt => hk.2 b hlt (by omega) (by simp))
theorem FmS.low {lo lo' : Nat} {w : World} {x : Fm} {A3 : Option Addr} {c3 : Nat} {A4 : Option Addr} {c4 : Nat} (h : FmS lo w x A3 c3 A4 c4) (hl : lo' ≤ lo) : FmS lo' w x A3 c3 A4 c4 := ⟨fun W hW => h.out W (fun b h1 h2 => hW b (Nat.le_trans hl h1) h2)⟩
/-- A form and another value are handed back; the form lies in new memory. -/
def GetFS (w : World) (x : Fm) (v : Value) (e : Ending) (w' : World) : Prop := ∃ A3 c3 A4 c4, e = .returned (.tuple #[.agg #[.int .i64 x.f0, .string x.f1, .int .i64 x.f2, .slice A3 x.f3.length c3, .slice A4 x.f4.length c4], v]) ∧ FmS w.heap.size w' x A3 c3 A4 c4 ∧ Below w.heap.size w w'
theorem GetFS.V {w : World} {x : Fm} {v : Value} {e : Ending} {w' : World} (h : GetFS w x v e w') : GetFV w x v e w' := by
  obtain ⟨A3, c3, A4, c4, he, hs, hb⟩ := h
  exact ⟨A3, c3, A4, c4, he, hs.now, hb⟩
theorem NewF.toS {B : Nat} {w : World} {x : Fm} {v3 v4 : Value} (h : NewF B w x v3 v4) : ∃ A3 c3 A4 c4, v3 = .slice A3 x.f3.length c3 ∧ v4 = .slice A4 x.f4.length c4 ∧ FmS B w x A3 c3 A4 c4 := by
  obtain ⟨fp, ht, _, hge⟩ := h
  obtain ⟨A3, c3, A4, c4, rfl, rfl, _⟩ := ht.In
  refine ⟨A3, c3, A4, c4, rfl, rfl, ⟨fun W hW => ?_⟩⟩
  obtain ⟨B3, d3, B4, d4, e3, e4, hi⟩ := (ht.move (w1 := W) x (fun b hb => hW b (hge b hb) (ht.lt x b hb))).In
  injection e3 with a1 _ a2
  injection e4 with a3 _ a4
  subst a1 a2 a3 a4
  exact hi
theorem FmS.ofR {B : Nat} {w : World} {x : Fm} {ok ok' : Nat → Prop} {v3 v4 : Value} (h3 : kI.R 3 w B ok v3 x.f3) (h4 : kF.R 26 w B ok' v4 x.f4) : ∃ A3 c3 A4 c4, v3 = .slice A3 x.f3.length c3 ∧ v4 = .slice A4 x.f4.length c4 ∧ FmS B w x A3 c3 A4 c4 := by
  obtain ⟨A3, c3, A4, c4, rfl, rfl, _⟩ := FmIn.ofR h3 h4
  refine ⟨A3, c3, A4, c4, rfl, rfl, ⟨fun W hW => ?_⟩⟩
  have k3 := Kd.R_move (w1 := W) (Kd.R_bound h3) (fun k hk => hW k hk.2.1 hk.2.2.1)
  have k4 := Kd.R_move (w1 := W) (Kd.R_bound h4) (fun k hk => hW k hk.2.1 hk.2.2.1)
  obtain ⟨B3, d3, B4, d4, e3, e4, hi⟩ := FmIn.ofR k3 k4
  injection e3 with a1 _ a2
  injection e4 with a3 _ a4
  subst a1 a2 a3 a4
  exact hi
theorem Dr.ltW {w0 w W : World} {g : Nat} {s : List Int} {q : Int} (h : Dr w0 w g s q W) : g < W.heap.size := Nat.lt_of_lt_of_le h.lt h.size
/-- A form is drawn: it lies in new memory, and the source stands at q. -/
def DrGet (w0 : World) (g : Nat) (s : List Int) (q : Nat) (y : Fm) (w : World) (e : Ending) (w' : World) : Prop :=
  ∃ A3 c3 A4 c4, e = .returned (.agg #[.int .i64 y.f0, .string y.f1, .int .i64 y.f2, .slice A3 y.f3.length c3, .slice A4 y.f4.length c4]) ∧ FmS w.heap.size w' y A3 c3 A4 c4 ∧ IsRd w0 w' g s (q : Int) ∧ Below w0.heap.size w0 w' ∧ KeepBut w w' g none
theorem DrPost.get {w0 : World} {g : Nat} {s : List Int} {q : Nat} {y : Fm} {w : World} {e : Ending} {w' : World} (h : DrPost w0 g s (q : Int) y w e w') : DrGet w0 g s q y w e w' := by
  obtain ⟨v3, v4, rfl, hn, hi, hb, hk⟩ := h
  obtain ⟨A3, c3, A4, c4, rfl, rfl, hs⟩ := hn.toS
  exact ⟨A3, c3, A4, c4, rfl, hs, hi, hb, hk⟩
def SomeOk (s : List Int) (d : Nat) (p : Nat) (y : Fm) (q : Nat) : Prop := ∀ (g : Nat) (w0 w : World), IsRd w0 w g s (p : Int) → Below w0.heap.size w0 w → Calls Tryd.prog 30 #[.pointer (some ⟨g, 0, none⟩), .int .i64 (d : Int)] w (DrGet w0 g s q y w)
theorem some_ex {s : List Int} (hs : Bts s) (d : Nat) (hd : d ≤ 4) (p : Nat) (hp : p + Bn d ≤ 900000) : ∃ (y : Fm) (q : Nat), q ≤ p + Bn d ∧ y.tot ≤ Bn d ∧ SomeOk s d p y q := by
  obtain ⟨y, q, h1, h2, h3⟩ := ev_some hs d hd p hp
  obtain ⟨k, hk⟩ := h3.rounds
  refine ⟨y, q, h1, h2, fun g w0 w hi hb => (Q.spec_l1Some.calls k g s p d _ _ _ _ _ _ w0 w hi hb hk).mono ?_⟩
  rintro e w' ⟨v3, v4, rfl, r3, r4, hi', hb', hk'⟩
  obtain ⟨A3, c3, A4, c4, rfl, rfl, hs'⟩ := FmS.ofR r3 r4
  exact ⟨A3, c3, A4, c4, rfl, hs', hi', hb', hk'⟩
/-- A pick. -/
theorem pick_at {s : List Int} {p : Nat} {n v : Int} (h : Ev (fun k => Q.spec_l15Rd_pick.f k s (p : Int) n) (v, ((p + 1 : Nat) : Int))) (g : Nat) (w0 W : World) (hi : IsRd w0 W g s (p : Int)) (hb : Below w0.heap.size w0 W) :
    Calls Tryd.prog 31 #[.pointer (some ⟨g, 0, none⟩), .int .i64 n] W (fun e w' => e = .returned (.int .i64 v) ∧ IsRd w0 w' g s ((p + 1 : Nat) : Int) ∧ Below w0.heap.size w0 w' ∧ KeepBut W w' g none) := by
  obtain ⟨k, hk⟩ := h.rounds
  refine (Q.spec_l15Rd_pick.calls k g s _ n v _ w0 _ hi hb hk).mono ?_
  rintro e w' ⟨rfl, h1, h2, h3⟩
  exact ⟨rfl, h1, h2, h3⟩
/-- The source is opened. -/
theorem open_at (l : List Int) (hl : ∀ z, z ∈ l → 0 ≤ z ∧ z < 256) : ∃ s, Bts s ∧ ∀ (A : Option Addr) (c : Nat) (w0 w : World), Below w0.heap.size w0 w → (Kd.int .u8).C w0 A l.length l → l.length ≤ c →
    Calls Tryd.prog 28 #[.slice A l.length c] w (fun e w' => ∃ g, e = .returned (.pointer (some ⟨g, 0, none⟩)) ∧ IsRd w0 w' g s ((0 : Nat) : Int) ∧ Below w0.heap.size w0 w' ∧ Below w.heap.size w w') := by
  obtain ⟨s, hs, he⟩ := ev_open l hl
  refine ⟨s, hs, fun A c w0 w hb hr hc => ?_⟩
  exact (Q.spec_l15Open.calls A c l s 0 w0 w hb hr hc he).mono fun e w' h => h
end Go.Proofs.YteeepenncddnjaaDoor
end
section
namespace Go.Proofs.YteeepenncddnjaaDoor
open Go.RowKit Go.Proofs.YteeepenncddnjaaDoorW.PrintWords Go.Proofs.YteeepenncddnjaaDoorW.PrintLast Go.Proofs.YteeepenncddnjaaDoorW.PrintMore
set_option linter.unusedVariables false
set_option linter.unusedSimpArgs false
/-- Two forms are handed back. -/
def GetTwo (w : World) (x y : Fm) (e : Ending) (w' : World) : Prop := ∃ A3 c3 A4 c4 B3 d3 B4 d4, e = .returned (.tuple #[.agg #[.int .i64 x.f0, .string x.f1, .int .i64 x.f2, .slice A3 x.f3.length c3, .slice A4 x.f4.length c4], .agg #[.int .i64 y.f0, .string y.f1, .int .i64 y.f2, .slice B3 y.f3.length d3, .slice B4 y.f4.length d4]]) ∧ FmIn w' x A3 c3 A4 c4 ∧ FmIn w' y B3 d3 B4 d4 ∧ Below w.heap.size w w'
/-- The form of a name without scopes. -/
abbrev lnm (n : ByteArray) : Fm := ⟨1, n, 0, [], []⟩
end Go.Proofs.YteeepenncddnjaaDoor
end
section
namespace Go.Proofs.YteeepenncddnjaaDoor
open Go.RowKit Go.Proofs.YteeepenncddnjaaDoorW.PrintWords Go.Proofs.YteeepenncddnjaaDoorW.PrintLast Go.Proofs.YteeepenncddnjaaDoorW.PrintMore
set_option linter.unusedVariables false
set_option linter.unusedSimpArgs false
abbrev kS : Kd ByteArray := Kd.string
instance decMemB (n : ByteArray) (xs : List ByteArray) : Decidable (n ∈ xs) := @List.instDecidableMemOfLawfulBEq ByteArray instBEqOfDecidableEq _ n xs
end Go.Proofs.YteeepenncddnjaaDoor
end
section
namespace Go.Proofs.YteeepenncddnjaaDoor
open Go.RowKit Go.Proofs.YteeepenncddnjaaDoorW.PrintWords Go.Proofs.YteeepenncddnjaaDoorW.PrintLast Go.Proofs.YteeepenncddnjaaDoorW.PrintMore
set_option linter.unusedVariables false
set_option linter.unusedSimpArgs false
/-- Only the blocks of S, and new ones, may have changed. -/
structure Mk (S : List Nat) (w w' : World) : Prop where
  b0 : Below 0 w w'
  keep : ∀ b, b < w.heap.size → b ∉ S → w'.heap[b]? = w.heap[b]?
theorem Mk.refl (S : List Nat) (w : World) : Mk S w w := ⟨Below.refl _ _, fun _ _ _ => rfl⟩
theorem Mk.trans {S : List Nat} {a b c : World} (h : Mk S a b) (k : Mk S b c) : Mk S a c :=
  ⟨h.b0.trans k.b0, fun j hj hs => (k.keep j (Nat.lt_of_lt_of_le hj h.b0.size) hs).trans (h.keep j hj hs)⟩
theorem Mk.more {S T : List Nat} {a b : World} (h : Mk S a b) (hs : ∀ j, j ∈ S → j ∈ T) : Mk T a b := ⟨h.b0, fun j hj ht => h.keep j hj (fun q => ht (hs j q))⟩
theorem Mk.set {S : List Nat} (w : World) {g : Nat} (hg : g ∈ S) (i : Nat) (u : Value) : Mk S w (w.setCell ⟨g, i, none⟩ u) :=
  ⟨(Below.refl 0 w).setCell (Nat.zero_le _) u, fun b _ hb => Below.heap_setCell _ _ _ _ (fun h => hb (h ▸ hg))⟩
theorem Mk.below {S : List Nat} {w w' : World} {B : Nat} (h : Mk S w w') (hB : B ≤ w.heap.size) (hs : ∀ b, b ∈ S → B ≤ b) : Below B w w' :=
  ⟨h.b0.os, h.b0.tape, h.b0.output, h.b0.size, fun k hk => h.keep k (Nat.lt_of_lt_of_le hk hB) (fun q => Nat.lt_irrefl _ (Nat.lt_of_lt_of_le hk (hs k q)))⟩
/-- The numbers k, k + 1, ..: n of them. -/
def markI (n : Nat) (k : Int) : List Int := (List.range n).map (fun i : Nat => k + (i : Int))
end Go.Proofs.YteeepenncddnjaaDoor
end
section
namespace Go.Proofs.YteeepenncddnjaaDoor
open Go.RowKit Go.Proofs.YteeepenncddnjaaDoorW.PrintWords Go.Proofs.YteeepenncddnjaaDoorW.PrintLast Go.Proofs.YteeepenncddnjaaDoorW.PrintMore
set_option linter.unusedVariables false
set_option linter.unusedSimpArgs false
mutual
def foldF {σ : Type} (step : σ → Fm → σ) : Fm → σ → σ
  | ⟨a, b, c, d, ks⟩, s => foldFs step ks (step s ⟨a, b, c, d, ks⟩)
def foldFs {σ : Type} (step : σ → Fm → σ) : List Fm → σ → σ
  | [], s => s
  | k :: ks, s => foldFs step ks (foldF step k s)
end
mutual
def costF (cost : Fm → Nat) : Fm → Nat
  | ⟨a, b, c, d, ks⟩ => cost ⟨a, b, c, d, ks⟩ + costFs cost ks
def costFs (cost : Fm → Nat) : List Fm → Nat
  | [] => 0
  | k :: ks => costF cost k + costFs cost ks
end
/-- What a call leaves of a state: it lies in S', which is S and new blocks. -/
def StPost {σ : Type} (St : World → List Nat → σ → Prop) (S : List Nat) (s : σ) (w : World) (e : Ending) (w' : World) : Prop :=
  e = .returned (.tuple #[]) ∧ ∃ S', St w' S' s ∧ Mk S w w' ∧ ∀ b, b ∈ S' → b ∈ S ∨ w.heap.size ≤ b
end Go.Proofs.YteeepenncddnjaaDoor
end
section
namespace Go.Proofs.YteeepenncddnjaaDoor
open Go.RowKit Go.Proofs.YteeepenncddnjaaDoorW.PrintWords Go.Proofs.YteeepenncddnjaaDoorW.PrintLast Go.Proofs.YteeepenncddnjaaDoorW.PrintMore
set_option linter.unusedVariables false
set_option linter.unusedSimpArgs false
theorem Mk.setCells {S : List Nat} {g : Nat} (hg : g ∈ S) : ∀ (vs : List Value) (o : Nat) (w : World), Mk S w (w.setCells g o vs)
  | [], _, w => Mk.refl S w
  | u :: r, o, w => by
    rw [World.setCells]
    exact (Mk.set w hg o u).trans (Mk.setCells hg r (o + 1) _)
end Go.Proofs.YteeepenncddnjaaDoor
end
section
namespace Go.Proofs.YteeepenncddnjaaDoor
open Go.RowKit Go.Proofs.YteeepenncddnjaaDoorW.PrintWords Go.Proofs.YteeepenncddnjaaDoorW.PrintLast Go.Proofs.YteeepenncddnjaaDoorW.PrintMore
set_option linter.unusedVariables false
/-- Number, captured variables, the world in which these lie, what it computes, and that it does. -/
structure Fv where
  g : Nat
  lb : Array Value
  w0 : World
  f : List Int → Option (List Int)
  eg : ∀ args w, (callFunc g args).run Tryd.prog w = .ok (.enter g args) w
  ok : ∀ (P1_ : Nat → Prop) (u : Value) (l r : List Int) (wb w : World), Below wb.heap.size wb w → kI.R 3 w wb.heap.size P1_ u l → Below w0.heap.size w0 wb → f l = some r →
    Calls Tryd.prog g (#[u] ++ lb) w fun e w' => ∃ v0_ : Value, e = .returned v0_ ∧ kI.R 3 w' wb.heap.size (fun k_ => P1_ k_ ∨ w.heap.size ≤ k_) v0_ r ∧ Below wb.heap.size wb w' ∧ Kept w w' (fun k_ => P1_ k_)
end Go.Proofs.YteeepenncddnjaaDoor
namespace Go.Proofs.YteeepenncddnjaaDoor.Q
open Go.RowKit Go.Proofs.YteeepenncddnjaaDoorW.PrintWords Go.Proofs.YteeepenncddnjaaDoorW.PrintLast Go.Proofs.YteeepenncddnjaaDoorW.PrintMore
set_option linter.unusedVariables false
def chg.f (a0 : Fv) (l1 : List Int) : Option (List Int) := a0.f l1
theorem chg.calls (a0 : Fv) (P1_ : Nat → Prop) (u9000_ : Value) (l1 : List Int) (r : List Int) (w0 w : World) (hB : Below w0.heap.size w0 w) (ho1 : Kd.R (Kd.int .i64) 3 w w0.heap.size P1_ u9000_ l1) (hw0 : Below a0.w0.heap.size a0.w0 w0) (h : chg.f a0 l1 = some r) :
    Calls Tryd.prog a0.g (#[u9000_] ++ a0.lb) w fun e w' => ∃ v0_ : Value, e = .returned v0_ ∧ Kd.R (Kd.int .i64) 3 w' w0.heap.size (fun k_ => (P1_ k_ ∨ w.heap.size ≤ k_)) v0_ r ∧ Below w0.heap.size w0 w' ∧ Kept w w' (fun k_ => P1_ k_) :=
  a0.ok P1_ u9000_ l1 r w0 w hB ho1 hw0 h
section
variable {P : Program} {ops : Array Oper} {Q : Exit → Act → World → Prop}
end
end Go.Proofs.YteeepenncddnjaaDoor.Q
end
section
namespace Go.Proofs.YteeepenncddnjaaDoor
open Go.RowKit Go.Proofs.YteeepenncddnjaaDoorW.PrintWords Go.Proofs.YteeepenncddnjaaDoorW.PrintLast Go.Proofs.YteeepenncddnjaaDoorW.PrintMore
set_option linter.unusedVariables false
set_option linter.unusedSimpArgs false
def putAt (xs : List Int) (k : Nat) (x : Int) : List Int := xs.take k ++ x :: xs.drop k
/-- A set with a number. -/
def putS (l : List Int) (x : Int) : List Int := if x ∈ l then l else putAt l (l.countP (· < x)) x
end Go.Proofs.YteeepenncddnjaaDoor
end
section
namespace Go.Proofs.YteeepenncddnjaaDoor
open Go.RowKit Go.Proofs.YteeepenncddnjaaDoorW.PrintWords Go.Proofs.YteeepenncddnjaaDoorW.PrintLast Go.Proofs.YteeepenncddnjaaDoorW.PrintMore
set_option linter.unusedVariables false
set_option linter.unusedSimpArgs false
/-- How a function tells of a form in new memory: from block B on. -/
structure Tells where
  T : Nat → World → Fm → Value → Value → Prop
  move : ∀ {B w w' x v3 v4}, T B w x v3 v4 → (∀ b, B ≤ b → w'.heap[b]? = w.heap[b]?) → T B w' x v3 v4
  low : ∀ {B B' w x v3 v4}, B' ≤ B → T B w x v3 v4 → T B' w x v3 v4
  form : ∀ {B w x v3 v4}, T B w x v3 v4 → ∃ A c B d, v3 = .slice A x.f3.length c ∧ v4 = .slice B x.f4.length d
def RetT (t : Tells) (w : World) (p : Fm × Bool) (e : Ending) (w' : World) : Prop := ∃ v3 v4, e = .returned (.tuple #[.agg #[.int .i64 p.1.f0, .string p.1.f1, .int .i64 p.1.f2, v3, v4], .bool p.2]) ∧ t.T w.heap.size w' p.1 v3 v4 ∧ Below w.heap.size w w'
def tellsNew : Tells where
  T := NewF
  move := by
    rintro B w w' x v3 v4 ⟨fp, ht, hn, hg⟩ hm
    exact ⟨fp, ht.move x (fun b hb => hm b (hg b hb)), hn, hg⟩
  low := by
    rintro B B' w x v3 v4 hb ⟨fp, ht, hn, hg⟩
    exact ⟨fp, ht, hn, fun b h => Nat.le_trans hb (hg b h)⟩
  form := by
    rintro B w x v3 v4 ⟨fp, ht, hn, hg⟩
    obtain ⟨A3, c3, A4, c4, e3, e4, _⟩ := ht.In
    exact ⟨A3, c3, A4, c4, e3, e4⟩
def tellsR : Tells where
  T := fun B w x v3 v4 => kI.R 3 w B (fun _ => True) v3 x.f3 ∧ kF.R 26 w B (fun k => some k ≠ v3.ownBlock) v4 x.f4
  move := by
    rintro B w w' x v3 v4 ⟨h3, h4⟩ hm
    have h3' := Kd.R_mono (Kd.R_move (Kd.R_bound h3) (fun k hk => hm k hk.2.1)) (fun _ _ => trivial)
    exact ⟨h3', Kd.R_mono (Kd.R_move (Kd.R_bound h4) (fun k hk => hm k hk.2.1)) (fun _ hk => hk.1)⟩
  low := by
    rintro B B' w x v3 v4 hb ⟨h3, h4⟩
    exact ⟨Kd.R_lower h3 hb, Kd.R_lower h4 hb⟩
  form := by
    rintro B w x v3 v4 ⟨h3, h4⟩
    obtain ⟨A, c, e3⟩ := Kd.R_slice h3
    obtain ⟨A2, c2, e4⟩ := Kd.R_slice h4
    exact ⟨A, c, A2, c2, e3, e4⟩
/-- What a mover leaves, as_ the print tells it. -/
theorem Mk.kept {v : Value} {w w' : World} {P1 : Nat → Prop} (h : Mk (obs v) w w') (hp : ∀ k, v.ownBlock = some k → P1 k) : Kept w w' (fun k => P1 k) := ⟨h.b0.size, fun i hi hn => h.keep i hi (fun hm => hn (hp i (obs_mem.1 hm)))⟩
/-- A set with a number put in or taken out. -/
def flipS (l : List Int) (n : Int) : List Int := if n ∈ l then l.filter (fun y => !(y == n)) else putS l n
end Go.Proofs.YteeepenncddnjaaDoor
end
section
namespace Go.Proofs.YteeepenncddnjaaDoor
set_option linter.unusedVariables false
set_option linter.unusedSimpArgs false
abbrev Srt (l : List Int) : Prop := l.Pairwise (· < ·)
abbrev takeO (l : List Int) (x : Int) : List Int := l.filter (fun y => !(y == x))
end Go.Proofs.YteeepenncddnjaaDoor
end
section
namespace Go.Proofs.YteeepenncddnjaaDoor
set_option linter.unusedVariables false
set_option linter.unusedSimpArgs false
mutual
/-- A form whose names have other scopes (what is no name has none). -/
def Fm.chS (g : List Int → List Int) : Fm → Fm
  | ⟨a, b, c, d, ks⟩ => ⟨a, b, c, if a = 1 then g d else [], chSL g ks⟩
def chSL (g : List Int → List Int) : List Fm → List Fm
  | [] => []
  | k :: ks => k.chS g :: chSL g ks
end
/-- A fact on all names within a form. -/
inductive AllNm (P : Fm → Prop) : Fm → Prop
  | mk (x : Fm) (h : x.f0 = 1 → P x) (hk : ∀ k, k ∈ x.f4 → AllNm P k) : AllNm P x
theorem AllNm.at {P : Fm → Prop} {x : Fm} (h : AllNm P x) : x.f0 = 1 → P x := by cases h; assumption
theorem AllNm.kid {P : Fm → Prop} {x : Fm} (h : AllNm P x) : ∀ k, k ∈ x.f4 → AllNm P k := by cases h; assumption
theorem AllNm.imp {P Q : Fm → Prop} (hi : ∀ x, P x → Q x) {x : Fm} (h : AllNm P x) : AllNm Q x := by
  induction h with
  | mk x h hk ih => exact ⟨x, fun e => hi x (h e), ih⟩
theorem AllNm.and {P Q : Fm → Prop} {x : Fm} (h : AllNm P x) (h2 : AllNm Q x) : AllNm (fun y => P y ∧ Q y) x := by
  induction h with
  | mk x h hk ih => exact ⟨x, fun e => ⟨h e, h2.at e⟩, fun k hk => ih k hk (h2.kid k hk)⟩
theorem AllNm.all {P : Fm → Prop} (h : ∀ x, P x) (x : Fm) : AllNm P x := by
  induction x using Fm.ind with
  | h x ih => exact ⟨x, fun _ => h x, ih⟩
/-- What AddScope, FlipScope, DropScope and DressLike return. -/
noncomputable def orN (x : Fm) : Fm × Bool := if pB (FmOk x) then (x, true) else (zFm, false)
noncomputable def reS (g : List Int → List Int) (n : Int) (x : Fm) : Fm × Bool := if pB (FmOk x ∧ 1 ≤ n ∧ n ≤ 99) then orN (x.chS g) else (zFm, false)
abbrev tupF (p : Fm × Bool) : Int × ByteArray × Int × List Int × List Fm × Bool := (p.1.f0, p.1.f1, p.1.f2, p.1.f3, p.1.f4, p.2)
end Go.Proofs.YteeepenncddnjaaDoor
end
section
namespace Go.Proofs.YteeepenncddnjaaDoor
open Go.RowKit Go.Proofs.YteeepenncddnjaaDoorW.PrintWords Go.Proofs.YteeepenncddnjaaDoorW.PrintLast Go.Proofs.YteeepenncddnjaaDoorW.PrintMore
set_option linter.unusedVariables false
set_option linter.unusedSimpArgs false
abbrev encS (xs : List ByteArray) : List Value := encs Value.string xs
/-- One form's name is told, if it is a name that is not told yet. -/
def nmStep (s : List ByteArray) (y : Fm) : List ByteArray := if y.f0 = 1 ∧ y.f1 ∉ s then s ++ [y.f1] else s
abbrev namesN (x : Fm) : List ByteArray := foldF nmStep x []
mutual
theorem cost_nm : ∀ x : Fm, costF (fun _ => 1) x = x.size
  | ⟨a, b, c, d, ks⟩ => by rw [costF, Fm.size_eq, cost_nmL ks]
theorem cost_nmL : ∀ ks : List Fm, costFs (fun _ => 1) ks = sizes ks
  | [] => by rw [costFs]; rfl
  | k :: ks => by rw [costFs, cost_nmL ks, cost_nm k]; rfl
end
theorem infoSt : (Tryd.prog.info? 9).map (fun i => (i.zero, i.size, i.bytes)) = some (some (.string ⟨#[]⟩), 1, 16) := by kernel_rfl
theorem own_CS {w : World} {v : Value} {xs : List ByteArray} {B : Nat} (h : w.ownsRow B 9 1 v xs.length (encS xs)) : ∃ A c, v = .slice A xs.length c ∧ xs.length ≤ c ∧ kS.C w A xs.length xs := by
  obtain ⟨A, c, e, hr⟩ := own_reads_row (R := kS.K w) h (Kd.reps_scalar xs) rfl
  subst e
  exact ⟨A, c, rfl, own_le h, hr⟩
/-- A block with one string reads as_ a row. -/
theorem one_str {W : World} {b : Nat} {n : ByteArray} (hb : W.heap[b]? = some (.cells #[.string n] 9 (0, 0))) : kS.C W (some ⟨b, 0, none⟩) 1 [n] := by
  refine Kd.C_of_reads (d := ByteArray.empty) (h1 := fun _ => rfl) ⟨rfl, by omega, fun hn => ⟨⟨b, 0, none⟩, rfl, fun i hi => ?_⟩⟩
  obtain rfl : i = 0 := by omega
  exact (blk_cell hb 0).trans rfl
/-- A row of strings in new memory is handed back. -/
def RetS (w : World) (xs : List ByteArray) (e : Ending) (w' : World) : Prop := ∃ v, e = .returned v ∧ w'.ownsRow w.heap.size 9 1 v xs.length (encS xs) ∧ Below w.heap.size w w'
end Go.Proofs.YteeepenncddnjaaDoor
end
section
namespace Go.Proofs.YteeepenncddnjaaDoor
open Go.RowKit Go.Proofs.YteeepenncddnjaaDoorW.PrintWords Go.Proofs.YteeepenncddnjaaDoorW.PrintLast Go.Proofs.YteeepenncddnjaaDoorW.PrintMore
set_option linter.unusedVariables false
set_option linter.unusedSimpArgs false
end Go.Proofs.YteeepenncddnjaaDoor
end
section
namespace Go.Proofs.YteeepenncddnjaaDoor
open Go.RowKit Go.Proofs.YteeepenncddnjaaDoorW.PrintWords Go.Proofs.YteeepenncddnjaaDoorW.PrintLast Go.Proofs.YteeepenncddnjaaDoorW.PrintMore
set_option linter.unusedVariables false
set_option linter.unusedSimpArgs false
theorem RetF.T {w : World} {x : Fm} {e : Ending} {w' : World} (h : RetF w x e w') : ∃ v3 v4, e = .returned (.agg #[.int .i64 x.f0, .string x.f1, .int .i64 x.f2, v3, v4]) ∧ tellsNew.T w.heap.size w' x v3 v4 ∧ Below w.heap.size w w' := h
end Go.Proofs.YteeepenncddnjaaDoor
end
section
namespace Go.Proofs.YteeepenncddnjaaDoor
open Go.RowKit Go.Proofs.YteeepenncddnjaaDoorW.PrintWords Go.Proofs.YteeepenncddnjaaDoorW.PrintLast Go.Proofs.YteeepenncddnjaaDoorW.PrintMore
set_option linter.unusedVariables false
set_option linter.unusedSimpArgs false
theorem NewF.In {B : Nat} {w : World} {x : Fm} {v3 v4 : Value} (h : NewF B w x v3 v4) : ∃ A3 c3 A4 c4, v3 = .slice A3 x.f3.length c3 ∧ v4 = .slice A4 x.f4.length c4 ∧ FmIn w x A3 c3 A4 c4 := by
  obtain ⟨fp, ht, _, _⟩ := h
  exact ht.In
end Go.Proofs.YteeepenncddnjaaDoor
end
section
namespace Go.Proofs.YteeepenncddnjaaDoor
open Go.RowKit Go.Proofs.YteeepenncddnjaaDoorW.PrintWords Go.Proofs.YteeepenncddnjaaDoorW.PrintLast Go.Proofs.YteeepenncddnjaaDoorW.PrintMore
set_option linter.unusedVariables false
set_option linter.unusedSimpArgs false
end Go.Proofs.YteeepenncddnjaaDoor
end
section
namespace Go.Proofs.YteeepenncddnjaaDoor
open Go.RowKit Go.Proofs.YteeepenncddnjaaDoorW.PrintWords Go.Proofs.YteeepenncddnjaaDoorW.PrintLast Go.Proofs.YteeepenncddnjaaDoorW.PrintMore
set_option linter.unusedVariables false
set_option linter.unusedSimpArgs false
end Go.Proofs.YteeepenncddnjaaDoor
end
section
namespace Go.Proofs.YteeepenncddnjaaDoor
open Go.RowKit Go.Proofs.YteeepenncddnjaaDoorW.PrintWords Go.Proofs.YteeepenncddnjaaDoorW.PrintLast Go.Proofs.YteeepenncddnjaaDoorW.PrintMore
set_option linter.unusedVariables false
set_option linter.unusedSimpArgs false
theorem byteOk {n : Int} (h : (Lit.int .u8 n).wf = true) : 0 ≤ n ∧ n < 256 := by
  simp only [Lit.wf, Bool.and_eq_true, decide_eq_true_eq] at h
  have e1 : IntKind.u8.min = 0 := by decide
  have e2 : IntKind.u8.max = 255 := by decide
  omega
theorem sameT (x : Fm) (A3 : Option Addr) (c3 : Nat) (A4 : Option Addr) (c4 : Nat) (B3 : Option Addr) (d3 : Nat) (B4 : Option Addr) (d4 : Nat) (w : World) (h1 : FmIn w x A3 c3 A4 c4) (h2 : FmIn w x B3 d3 B4 d4) :
    Calls Tryd.prog 9 #[.agg #[.int .i64 x.f0, .string x.f1, .int .i64 x.f2, .slice A3 x.f3.length c3, .slice A4 x.f4.length c4], .agg #[.int .i64 x.f0, .string x.f1, .int .i64 x.f2, .slice B3 x.f3.length d3, .slice B4 x.f4.length d4]] w (Ret w (.bool true)) := by
  have := implSame_any x x A3 c3 A4 c4 B3 d3 B4 d4 w h1 h2
  rwa [eqB_self] at this
theorem RetF.get {w : World} {x : Fm} {e : Ending} {w' : World} (h : RetF w x e w') : GetF w x e w' := by
  obtain ⟨v3, v4, rfl, hn, hb⟩ := h
  obtain ⟨A3, c3, A4, c4, rfl, rfl, hi⟩ := hn.In
  exact ⟨A3, c3, A4, c4, rfl, hi, hb⟩
end Go.Proofs.YteeepenncddnjaaDoor
end
section
namespace Go.Proofs.YteeepenncddnjaaDoor
open Go.RowKit Go.Proofs.YteeepenncddnjaaDoorW.PrintWords Go.Proofs.YteeepenncddnjaaDoorW.PrintLast Go.Proofs.YteeepenncddnjaaDoorW.PrintMore
set_option linter.unusedVariables false
theorem ok_cases (x : Fm) : (FmOk x ∧ pB (FmOk x) = true) ∨ (¬ FmOk x ∧ pB (FmOk x) = false) := by
  by_cases h : FmOk x
  · exact .inl ⟨h, pB_iff.2 h⟩
  · exact .inr ⟨h, (pB_no h).symm⟩
theorem implValid' {x : Fm} {b : Bool} (h : pB (FmOk x) = b) (A3 : Option Addr) (c3 : Nat) (A4 : Option Addr) (c4 : Nat) (w : World) (hin : FmIn w x A3 c3 A4 c4) (ht : x.tot ≤ 1048576) :
    Calls Tryd.prog 11 #[.agg #[.int .i64 x.f0, .string x.f1, .int .i64 x.f2, .slice A3 x.f3.length c3, .slice A4 x.f4.length c4]] w (Ret w (.bool b)) := h ▸ implValid_any x A3 c3 A4 c4 w hin ht
end Go.Proofs.YteeepenncddnjaaDoor
end
section
namespace Go.Proofs.YteeepenncddnjaaDoor
open Go.RowKit Go.Proofs.YteeepenncddnjaaDoorW.PrintWords Go.Proofs.YteeepenncddnjaaDoorW.PrintLast Go.Proofs.YteeepenncddnjaaDoorW.PrintMore
set_option linter.unusedVariables false
set_option linter.unusedSimpArgs false
/-- A form in new memory is handed back. -/
def GetSF (w : World) (x : Fm) (e : Ending) (w' : World) : Prop := ∃ A3 c3 A4 c4, e = .returned (.agg #[.int .i64 x.f0, .string x.f1, .int .i64 x.f2, .slice A3 x.f3.length c3, .slice A4 x.f4.length c4]) ∧ FmS w.heap.size w' x A3 c3 A4 c4 ∧ Below w.heap.size w w'
theorem GetSF.F {w : World} {x : Fm} {e : Ending} {w' : World} (h : GetSF w x e w') : GetF w x e w' := by
  obtain ⟨A3, c3, A4, c4, he, hs, hb⟩ := h
  exact ⟨A3, c3, A4, c4, he, hs.now, hb⟩
end Go.Proofs.YteeepenncddnjaaDoor
end
section
namespace Go.Proofs.YteeepenncddnjaaDoor
open Go.RowKit Go.Proofs.YteeepenncddnjaaDoorW.PrintWords Go.Proofs.YteeepenncddnjaaDoorW.PrintLast Go.Proofs.YteeepenncddnjaaDoorW.PrintMore
set_option linter.unusedVariables false
set_option linter.unusedSimpArgs false
/-- A row of strings is handed back. -/
def GetN (w : World) (r : List ByteArray) (e : Ending) (w' : World) : Prop := ∃ A c, e = .returned (.slice A r.length c) ∧ r.length ≤ c ∧ kS.C w' A r.length r ∧ Below w.heap.size w w'
theorem RetS.get {w : World} {r : List ByteArray} {e : Ending} {w' : World} (h : RetS w r e w') : GetN w r e w' := by
  obtain ⟨v, rfl, hn, hb⟩ := h
  obtain ⟨A, c, rfl, hc, hC⟩ := own_CS hn
  exact ⟨A, c, rfl, hc, hC, hb⟩
theorem nmStep_nodup {s : List ByteArray} (h : s.Nodup) (y : Fm) : (nmStep s y).Nodup := by
  unfold nmStep
  split
  · rename_i hc
    rw [List.nodup_append]
    exact ⟨h, by simp, fun a ha b hb e => hc.2 (by simp at hb; rw [← hb, ← e]; exact ha)⟩
  · exact h
mutual
theorem names_nodup : ∀ (x : Fm) {s : List ByteArray}, s.Nodup → (foldF nmStep x s).Nodup
  | ⟨a, b, c, d, ks⟩, s, h => by rw [foldF]; exact names_nodupL ks (nmStep_nodup h _)
theorem names_nodupL : ∀ (ks : List Fm) {s : List ByteArray}, s.Nodup → (foldFs nmStep ks s).Nodup
  | [], s, h => by rw [foldFs]; exact h
  | k :: ks, s, h => by rw [foldFs]; exact names_nodupL ks (names_nodup k h)
end
theorem mem_nmStep (s : List ByteArray) (y : Fm) (n : ByteArray) : n ∈ nmStep s y ↔ n ∈ s ∨ (y.f0 = 1 ∧ n = y.f1) := by
  unfold nmStep
  split
  · rename_i hc
    rw [List.mem_append, List.mem_singleton]
    constructor
    · rintro (h | h)
      · exact .inl h
      · exact .inr ⟨hc.1, h⟩
    · rintro (h | h)
      · exact .inl h
      · exact .inr h.2
  · rename_i hc
    constructor
    · exact .inl
    · rintro (h | ⟨h1, h2⟩)
      · exact h
      · exact Classical.byContradiction fun hn => hc ⟨h1, fun hm => hn (h2 ▸ hm)⟩
mutual
theorem mem_names : ∀ (x : Fm) (s : List ByteArray) (n : ByteArray), n ∈ foldF nmStep x s ↔ n ∈ s ∨ n ∈ foldF nmStep x []
  | ⟨a, b, c, d, ks⟩, s, n => by
    rw [foldF, foldF, mem_namesL ks, mem_namesL ks (nmStep [] _), mem_nmStep, mem_nmStep]
    simp [or_assoc]
theorem mem_namesL : ∀ (ks : List Fm) (s : List ByteArray) (n : ByteArray), n ∈ foldFs nmStep ks s ↔ n ∈ s ∨ n ∈ foldFs nmStep ks []
  | [], s, n => by rw [foldFs, foldFs]; simp
  | k :: ks, s, n => by
    rw [foldFs, foldFs, mem_namesL ks, mem_namesL ks (foldF nmStep k []), mem_names k]
    simp [or_assoc]
end
theorem tot_bareL (ks : List Fm) (h : ∀ k, k ∈ ks → k.bare.tot ≤ k.tot) : totL (ks.map Fm.bare) ≤ totL ks := by
  induction ks with
  | nil => exact Nat.le_refl _
  | cons k ks ih =>
    have h1 := ih (fun k' hk => h k' (List.mem_cons_of_mem _ hk))
    have h2 := h k List.mem_cons_self
    simp only [List.map_cons, totL]
    omega
theorem tot_bare (x : Fm) : x.bare.tot ≤ x.tot := by
  induction x using Fm.ind with
  | h x ih =>
    have h1 := tot_bareL x.f4 ih
    rw [Fm.bare_eq, Fm.tot_eq, Fm.tot_eq x]
    show x.f1.size + 0 + totL (x.f4.map Fm.bare) ≤ _
    omega
end Go.Proofs.YteeepenncddnjaaDoor
end
section
namespace Go.Proofs.YteeepenncddnjaaDoor
open Go.RowKit Go.Proofs.YteeepenncddnjaaDoorW.PrintWords Go.Proofs.YteeepenncddnjaaDoorW.PrintLast Go.Proofs.YteeepenncddnjaaDoorW.PrintMore
set_option linter.unusedVariables false
set_option linter.unusedSimpArgs false
set_option maxHeartbeats 4000000 in
set_option maxRecDepth 100000 in
theorem drawFS (l : List Int) (hl : ∀ z, z ∈ l → 0 ≤ z ∧ z < 256) : ∃ (a b : Fm), a.tot ≤ 7000 ∧ b.tot ≤ 7000 ∧ ∀ (A : Option Addr) (c : Nat) (w : World), (Kd.int .u8).C w A l.length l → l.length ≤ c → Calls Tryd.prog 8 #[.slice A l.length c] w (GetTwo w a b) := by
  obtain ⟨s, hs, hopen⟩ := open_at l hl
  have hB := Bn_le (show 3 ≤ 4 by omega)
  obtain ⟨x0, q0, a0, b0, c0⟩ := some_ex hs 3 (by omega) 0 (by omega)
  have s0 := sizes_totL x0
  obtain ⟨a, q1, a1, b1, _, f1, c1⟩ := dress_ex hs x0 (by omega) q0 (by omega)
  have s1 := sizes_totL a
  have z1 := sizes_totL x0
  obtain ⟨v, hv, e2⟩ := ev_pick hs q1 (by omega) 4 (by omega)
  have HO := Lib.hid hopen
  have HS0 := Lib.hid c0
  have HS1 := Lib.hid c1
  have HE2 := Lib.hid e2
  have hat : a.tot ≤ 7000 := by omega
  clear hopen c0 c1 e2 hv
  by_cases v0 : v = 0
  · have t0 : (v == 0) = true := beq_iff_eq.mpr v0
    obtain ⟨x1, q2, a2, b2, k1⟩ := some_ex hs 3 (by omega) (q1 + 1) (by omega)
    have s2 := sizes_totL x1
    obtain ⟨b, q3, a3, b3, _, f3, k2⟩ := dress_ex hs x1 (by omega) q2 (by omega)
    refine ⟨a, b, hat, by omega, fun A c w hr hc => ?_⟩
    have K1 := Lib.hid k1
    have K2 := Lib.hid k2
    clear k1 k2 a2 b2 a3 b3 f3 s2 v0 hs a0 b0 a1 b1 f1 s0 s1 z1 hB hat
    go_enter Tryd.func8, Tryd.ntmps8
    go_wp2_with fail
    refine (HO.out A c w _ (below_step (below_new _ _) (below_new _ _)) hr hc).mono ?_
    rintro e w2 ⟨g, rfl, hi, hb, hb2⟩
    obtain ⟨kr2, kr3, hbw⟩ := two_new hb2
    have HD := Lib.hid (Dr.new hi hb)
    have HG2 := Lib.hid (show g ≠ w.heap.size from Q.IsS78.ne_blk hi kr2 (by decide))
    have HG3 := Lib.hid (show g ≠ w.heap.size + 1 from Q.IsS78.ne_blk hi kr3 (by decide))
    have HR2 := Lib.hid kr2
    have HR3 := Lib.hid kr3
    have HW2 := Lib.hid (show w.heap.size + 1 < w2.heap.size from blk_lt kr3)
    clear hi hb hb2 kr2 kr3 hbw
    go_wp2_with fail
    refine (HS0.out g w w2 HD.out.is HD.out.b).mono ?_
    rintro e w4 ⟨X_3, X_c3, X_4, X_c4, rfl, hf, hi, hb, hk⟩
    have HF0 := Lib.hid hf.now
    replace HD := Lib.hid (HD.out.call hi hb hk)
    clear hi hb hk hf
    go_wp2_with fail
    refine (HS1.out g X_3 X_c3 X_4 X_c4 w w4 HD.out.is HD.out.b HF0.out).mono ?_
    intro e w5 hp
    obtain ⟨A_3, A_c3, A_4, A_c4, rfl, hf, hi, hb, hk⟩ := hp.get
    have HF2 := Lib.hid hf
    have HL2 := Lib.hid (show g < w4.heap.size from HD.out.ltW)
    have HW4 := Lib.hid (show w2.heap.size ≤ w4.heap.size from HD.out.size)
    have HW5 := Lib.hid (show w2.heap.size ≤ w5.heap.size from Nat.le_trans HD.out.size hk.1)
    replace HD := Lib.hid (HD.out.call hi hb hk)
    clear hi hb hk hf hp
    go_wp2_with fail
    refine (pick_at HE2.out g w _ (HD.out.later (below_new _ _)).is (HD.out.later (below_new _ _)).b).mono ?_
    rintro e w6 ⟨rfl, hi, hb, hk⟩
    have HD5 := Lib.hid ((HD.out.later (below_new _ (.cells #[.int .i64 a.f0, .string a.f1, .int .i64 a.f2, .slice A_3 a.f3.length A_c3, .slice A_4 a.f4.length A_c4] 26))).call hi hb hk)
    have HG5 := Lib.hid (show w5.heap.size ≠ g from by have := HL2.out; have := HD.out.size; have := HD.out.lt; have := HW5.out; omega)
    have HK5 := Lib.hid (show w6.heap[w5.heap.size]? = some (.cells #[.int .i64 a.f0, .string a.f1, .int .i64 a.f2, .slice A_3 a.f3.length A_c3, .slice A_4 a.f4.length A_c4] 26) from hk.blk (blk_new w5 _) HG5.out (by simp))
    have HF6 := Lib.hid ((HF2.out.later (below_new _ (.cells #[.int .i64 a.f0, .string a.f1, .int .i64 a.f2, .slice A_3 a.f3.length A_c3, .slice A_4 a.f4.length A_c4] 26))).keep hk HL2.out)
    clear hi hb hk
    go_wp2_with fail
    have HDD := Lib.hid (HD5.out.later (below_drew (Below.refl _ _)))
    have HKD := Lib.hid (blk_drew HK5.out)
    have HRD2 := Lib.hid (blk_drew (HD5.out.kp.blk HR2.out (fun e => HG2.out e.symm) (by simp)))
    have HRD3 := Lib.hid (blk_drew (HD5.out.kp.blk HR3.out (fun e => HG3.out e.symm) (by simp)))
    have HFD := Lib.hid (HF6.out.later (below_drew (Below.refl _ _)))
    refine start_ (n := 7) (S := (fun W : World => W.cell? ⟨w5.heap.size, 0, none⟩ = some (.int .i64 a.f0) ∧ W.cell? ⟨w5.heap.size, 1, none⟩ = some (.string a.f1) ∧ W.cell? ⟨w5.heap.size, 2, none⟩ = some (.int .i64 a.f2) ∧ W.cell? ⟨w5.heap.size, 3, none⟩ = some (.slice A_3 a.f3.length A_c3) ∧ W.cell? ⟨w5.heap.size, 4, none⟩ = some (.slice A_4 a.f4.length A_c4))) (ds := []) #[false, false, false, false, false, false, false] (by kernel_rfl) rfl rfl (fm_cells HKD.out) (fun hHeld => ?_)
    generalize w6.drew = wd at HDD HKD HRD2 HRD3 HFD hHeld ⊢
    refine take_ (i := 0) (N := some 16) (v := ?_) (a' := ?_) #[true, false, false, false, false, false, false] rfl rfl (by kernel_rfl) (fun _ _ _ h => h) (Or.inl ⟨by rfl, ?_⟩) hHeld ?_ ?_
    rotate_left
    · rintro w' ⟨s0, s1, s2, s3, s4⟩
      go_simp
      with_reducible rfl
    rotate_left
    · simp only [Act.put, List.setIfInBounds_toArray, List.set_cons_zero, List.set_cons_succ, i64_w, i32_w]
      rfl
    refine pure_ (i := 1) (N := some 17) (v := ?_) (a' := ?_) #[true, true, false, false, false, false, false] rfl rfl (by kernel_rfl) (fun _ _ _ h => h) (Or.inl ⟨by rfl, ?_⟩) ?_ ?_
    rotate_left
    · intro w'
      go_simp
      with_reducible rfl
    rotate_left
    · simp only [Act.put, List.setIfInBounds_toArray, List.set_cons_zero, List.set_cons_succ, i64_w, i32_w]
      rfl
    refine pure_ (i := 2) (N := some 18) (v := ?_) (a' := ?_) #[true, true, true, false, false, false, false] rfl rfl (by kernel_rfl) (fun _ _ _ h => h) (Or.inl ⟨by rfl, ?_⟩) ?_ ?_
    rotate_left
    · intro w'
      go_simp
      with_reducible rfl
    rotate_left
    · simp only [Act.put, List.setIfInBounds_toArray, List.set_cons_zero, List.set_cons_succ, i64_w, i32_w]
      rfl
    refine one_ (i := 3) (N := some 19) #[true, true, true, true, false, false, false] rfl rfl (by kernel_rfl) (by decide) (fun K hK => ?_)
    refine goes_ Tryd.func30 (by kernel_rfl) rfl #[.pointer (some ⟨g, 0, none⟩), .int .i64 3] (by rfl) rfl rfl (by (try simp only [List.map_toArray, List.map_cons, List.map_nil]); first | done | rfl) ?_
    refine (K1.out g w wd HDD.out.is HDD.out.b).mono ?_
    rintro e w9 ⟨C_3, C_c3, C_4, C_c4, rfl, hf, hi, hb, hk⟩
    have HFC := Lib.hid hf.now
    clear hf
    refine ⟨_, rfl, ?_⟩
    replace HKD := Lib.hid (hk.blk HKD.out HG5.out (by simp))
    replace HRD2 := Lib.hid (hk.blk HRD2.out (fun e => HG2.out e.symm) (by simp))
    replace HRD3 := Lib.hid (hk.blk HRD3.out (fun e => HG3.out e.symm) (by simp))
    replace HFD := Lib.hid (HFD.out.keep hk HL2.out)
    replace HDD := Lib.hid (HDD.out.call hi hb hk)
    clear hi hb hk
    refine hK.out _ _ (fm_cells HKD.out) (fun hHeld => ?_)
    clear hK K
    refine norm_ (a' := ?_) ?_ ?_
    rotate_left
    · show Act.put _ (some 19) _ = _
      simp only [Act.put, List.setIfInBounds_toArray, List.set_cons_zero, List.set_cons_succ, i64_w, i32_w]
      rfl
    refine one_ (i := 4) (N := some 20) #[true, true, true, true, true, false, false] rfl rfl (by kernel_rfl) (by decide) (fun K hK => ?_)
    refine goes_ Tryd.func29 (by kernel_rfl) rfl #[.pointer (some ⟨g, 0, none⟩), .agg #[.int .i64 x1.f0, .string x1.f1, .int .i64 x1.f2, .slice C_3 x1.f3.length C_c3, .slice C_4 x1.f4.length C_c4]] (by rfl) rfl rfl (by (try simp only [List.map_toArray, List.map_cons, List.map_nil]); first | done | rfl) ?_
    refine (K2.out g C_3 C_c3 C_4 C_c4 w w9 HDD.out.is HDD.out.b HFC.out).mono ?_
    intro e w10 hp
    obtain ⟨B_3, B_c3, B_4, B_c4, rfl, hf, hi, hb, hk⟩ := hp.get
    have HFB := Lib.hid hf
    have HLB := Lib.hid (show w.heap.size + 1 < w9.heap.size from by have := HDD.out.size; have := HW2.out; omega)
    clear hf hp
    refine ⟨_, rfl, ?_⟩
    replace HKD := Lib.hid (hk.blk HKD.out HG5.out (by simp))
    replace HRD2 := Lib.hid (hk.blk HRD2.out (fun e => HG2.out e.symm) (by simp))
    replace HRD3 := Lib.hid (hk.blk HRD3.out (fun e => HG3.out e.symm) (by simp))
    replace HFD := Lib.hid (HFD.out.keep hk HL2.out)
    replace HDD := Lib.hid (HDD.out.call hi hb hk)
    clear hi hb hk
    refine hK.out _ _ (fm_cells HKD.out) (fun hHeld => ?_)
    clear hK K
    refine norm_ (a' := ?_) ?_ ?_
    rotate_left
    · show Act.put _ (some 20) _ = _
      simp only [Act.put, List.setIfInBounds_toArray, List.set_cons_zero, List.set_cons_succ, i64_w, i32_w]
      rfl
    obtain ⟨z0, z1, z2, z3, z4⟩ := fm_cells HRD2.out
    obtain ⟨f0, f1, f2, f3, f4⟩ := fm_free HRD2.out
    obtain ⟨st1, st2, st3⟩ := st5 HRD2.out (.int .i64 a.f0) (.string a.f1) (.int .i64 a.f2) (.slice A_3 a.f3.length A_c3) (.slice A_4 a.f4.length A_c4)
    have hn5 : w5.heap.size ≠ w.heap.size := by have := HW2.out; have := HW5.out; omega
    have hn6 : w5.heap.size ≠ w.heap.size + 1 := by have := HW2.out; have := HW5.out; omega
    have K5 := Lib.hid ((st2 w5.heap.size hn5).trans HKD.out)
    have R3 := Lib.hid ((st2 (w.heap.size + 1) (by omega)).trans HRD3.out)
    have R2 := Lib.hid st1
    have FA := Lib.hid (HFD.out.move (st3 0 w10 (Below.refl 0 _) (Nat.zero_le _)).size (fun b h1 h2 => st2 b (by have := HW2.out; have := HW4.out; omega)))
    have FB := Lib.hid (HFB.out.move (st3 0 w10 (Below.refl 0 _) (Nat.zero_le _)).size (fun b h1 h2 => st2 b (by have := HLB.out; omega)))
    have BB := Lib.hid (st3 _ _ HDD.out.b (Nat.le_refl _))
    clear st1 st2 st3
    refine one_ (i := 5) (N := none) #[true, true, true, true, true, true, false] rfl rfl (by kernel_rfl) (by decide) (fun K hK => ?_)
    refine skip_ (w1 := ?_) (by rfl) rfl ?_ ?_
    rotate_left
    · go_simp
      rfl
    refine hK.out _ _ (fm_cells K5.out) (fun hHeld => ?_)
    clear hK K z0 z1 z2 z3 z4 f0 f1 f2 f3 f4
    generalize World.setCell (World.setCell (World.setCell (World.setCell (World.setCell w10 _ _) _ _) _ _) _ _) _ _ = wx at K5 R3 R2 FA FB BB hHeld ⊢
    obtain ⟨z0, z1, z2, z3, z4⟩ := fm_cells R3.out
    obtain ⟨f0, f1, f2, f3, f4⟩ := fm_free R3.out
    obtain ⟨st1, st2, st3⟩ := st5 R3.out (.int .i64 b.f0) (.string b.f1) (.int .i64 b.f2) (.slice B_3 b.f3.length B_c3) (.slice B_4 b.f4.length B_c4)
    have K5' := Lib.hid ((st2 w5.heap.size hn6).trans K5.out)
    have R2' := Lib.hid ((st2 w.heap.size (by omega)).trans R2.out)
    have R3' := Lib.hid st1
    have FA' := Lib.hid (FA.out.move (st3 0 wx (Below.refl 0 _) (Nat.zero_le _)).size (fun b h1 h2 => st2 b (by have := HW2.out; have := HW4.out; omega))).now
    have FB' := Lib.hid (FB.out.move (st3 0 wx (Below.refl 0 _) (Nat.zero_le _)).size (fun b h1 h2 => st2 b (by have := HLB.out; omega))).now
    have BB' := Lib.hid (st3 _ _ BB.out (by omega))
    clear st1 st2 st3 FA FB BB R2 K5 R3
    refine one_ (i := 6) (N := none) #[true, true, true, true, true, true, true] rfl rfl (by kernel_rfl) (by decide) (fun K hK => ?_)
    refine skip_ (w1 := ?_) (by rfl) rfl ?_ ?_
    rotate_left
    · go_simp
      rfl
    refine hK.out _ _ (fm_cells K5'.out) (fun hHeld => ?_)
    clear hK K z0 z1 z2 z3 z4 f0 f1 f2 f3 f4
    generalize World.setCell (World.setCell (World.setCell (World.setCell (World.setCell wx _ _) _ _) _ _) _ _) _ _ = wy at K5' R2' R3' FA' FB' BB' hHeld ⊢
    refine done_ (by kernel_rfl) ?_
    obtain ⟨z0, z1, z2, z3, z4⟩ := fm_cells R2'.out
    obtain ⟨y0, y1, y2, y3, y4⟩ := fm_cells R3'.out
    try go_wp2_with fail
    refine bodyPost_ret (v := .tuple #[.agg #[.int .i64 a.f0, .string a.f1, .int .i64 a.f2, .slice A_3 a.f3.length A_c3, .slice A_4 a.f4.length A_c4], .agg #[.int .i64 b.f0, .string b.f1, .int .i64 b.f2, .slice B_3 b.f3.length B_c3, .slice B_4 b.f4.length B_c4]]) (by simp [results, Tryd.results8, go_sem, z0, z1, z2, z3, z4, y0, y1, y2, y3, y4]) rfl ?_
    exact ⟨_, _, _, _, _, _, _, _, rfl, FA'.out, FB'.out, BB'.out⟩
  have t0 : (v == 0) = false := beq_eq_false_iff_ne.mpr v0
  by_cases v1 : v = 1
  · have t1 : (v == 1) = true := beq_iff_eq.mpr v1
    have hbt := tot_bare a
    obtain ⟨z, hz⟩ : ∃ z, a.bare = z := ⟨_, rfl⟩
    have HZ := Lib.hid hz
    rw [hz] at hbt
    refine ⟨a, z, hat, by omega, fun A c w hr hc => ?_⟩
    have HAT := Lib.hid hat
    clear v1 v0 hz hbt hs a0 b0 a1 b1 f1 s0 s1 z1 hB hat
    go_enter Tryd.func8, Tryd.ntmps8
    go_wp2_with fail
    refine (HO.out A c w _ (below_step (below_new _ _) (below_new _ _)) hr hc).mono ?_
    rintro e w2 ⟨g, rfl, hi, hb, hb2⟩
    obtain ⟨kr2, kr3, hbw⟩ := two_new hb2
    have HD := Lib.hid (Dr.new hi hb)
    have HG2 := Lib.hid (show g ≠ w.heap.size from Q.IsS78.ne_blk hi kr2 (by decide))
    have HG3 := Lib.hid (show g ≠ w.heap.size + 1 from Q.IsS78.ne_blk hi kr3 (by decide))
    have HR2 := Lib.hid kr2
    have HR3 := Lib.hid kr3
    have HW2 := Lib.hid (show w.heap.size + 1 < w2.heap.size from blk_lt kr3)
    clear hi hb hb2 kr2 kr3 hbw
    go_wp2_with fail
    refine (HS0.out g w w2 HD.out.is HD.out.b).mono ?_
    rintro e w4 ⟨X_3, X_c3, X_4, X_c4, rfl, hf, hi, hb, hk⟩
    have HF0 := Lib.hid hf.now
    replace HD := Lib.hid (HD.out.call hi hb hk)
    clear hi hb hk hf
    go_wp2_with fail
    refine (HS1.out g X_3 X_c3 X_4 X_c4 w w4 HD.out.is HD.out.b HF0.out).mono ?_
    intro e w5 hp
    obtain ⟨A_3, A_c3, A_4, A_c4, rfl, hf, hi, hb, hk⟩ := hp.get
    have HF2 := Lib.hid hf
    have HL2 := Lib.hid (show g < w4.heap.size from HD.out.ltW)
    have HW4 := Lib.hid (show w2.heap.size ≤ w4.heap.size from HD.out.size)
    have HW5 := Lib.hid (show w2.heap.size ≤ w5.heap.size from Nat.le_trans HD.out.size hk.1)
    replace HD := Lib.hid (HD.out.call hi hb hk)
    clear hi hb hk hf hp
    go_wp2_with fail
    refine (pick_at HE2.out g w _ (HD.out.later (below_new _ _)).is (HD.out.later (below_new _ _)).b).mono ?_
    rintro e w6 ⟨rfl, hi, hb, hk⟩
    have HD5 := Lib.hid ((HD.out.later (below_new _ (.cells #[.int .i64 a.f0, .string a.f1, .int .i64 a.f2, .slice A_3 a.f3.length A_c3, .slice A_4 a.f4.length A_c4] 26))).call hi hb hk)
    have HG5 := Lib.hid (show w5.heap.size ≠ g from by have := HL2.out; have := HD.out.size; have := HD.out.lt; have := HW5.out; omega)
    have HK5 := Lib.hid (show w6.heap[w5.heap.size]? = some (.cells #[.int .i64 a.f0, .string a.f1, .int .i64 a.f2, .slice A_3 a.f3.length A_c3, .slice A_4 a.f4.length A_c4] 26) from hk.blk (blk_new w5 _) HG5.out (by simp))
    have HF6 := Lib.hid ((HF2.out.later (below_new _ (.cells #[.int .i64 a.f0, .string a.f1, .int .i64 a.f2, .slice A_3 a.f3.length A_c3, .slice A_4 a.f4.length A_c4] 26))).keep hk HL2.out)
    clear hi hb hk
    go_wp2_with fail
    have HDD := Lib.hid (HD5.out.later (below_drew (Below.refl _ _)))
    have HKD := Lib.hid (blk_drew HK5.out)
    have HRD2 := Lib.hid (blk_drew (HD5.out.kp.blk HR2.out (fun e => HG2.out e.symm) (by simp)))
    have HRD3 := Lib.hid (blk_drew (HD5.out.kp.blk HR3.out (fun e => HG3.out e.symm) (by simp)))
    have HFD := Lib.hid (HF6.out.later (below_drew (Below.refl _ _)))
    refine start_ (n := 5) (S := (fun W : World => W.cell? ⟨w5.heap.size, 0, none⟩ = some (.int .i64 a.f0) ∧ W.cell? ⟨w5.heap.size, 1, none⟩ = some (.string a.f1) ∧ W.cell? ⟨w5.heap.size, 2, none⟩ = some (.int .i64 a.f2) ∧ W.cell? ⟨w5.heap.size, 3, none⟩ = some (.slice A_3 a.f3.length A_c3) ∧ W.cell? ⟨w5.heap.size, 4, none⟩ = some (.slice A_4 a.f4.length A_c4))) (ds := []) #[false, false, false, false, false] (by kernel_rfl) rfl rfl (fm_cells HKD.out) (fun hHeld => ?_)
    generalize w6.drew = wd at HDD HKD HRD2 HRD3 HFD hHeld ⊢
    refine take_ (i := 0) (N := some 23) (v := ?_) (a' := ?_) #[true, false, false, false, false] rfl rfl (by kernel_rfl) (fun _ _ _ h => h) (Or.inl ⟨by rfl, ?_⟩) hHeld ?_ ?_
    rotate_left
    · rintro w' ⟨s0, s1, s2, s3, s4⟩
      go_simp
      with_reducible rfl
    rotate_left
    · simp only [Act.put, List.setIfInBounds_toArray, List.set_cons_zero, List.set_cons_succ, i64_w, i32_w]
      rfl
    refine take_ (i := 1) (N := some 24) (v := ?_) (a' := ?_) #[true, true, false, false, false] rfl rfl (by kernel_rfl) (fun _ _ _ h => h) (Or.inl ⟨by rfl, ?_⟩) hHeld ?_ ?_
    rotate_left
    · rintro w' ⟨s0, s1, s2, s3, s4⟩
      go_simp
      with_reducible rfl
    rotate_left
    · simp only [Act.put, List.setIfInBounds_toArray, List.set_cons_zero, List.set_cons_succ, i64_w, i32_w]
      rfl
    refine one_ (i := 2) (N := some 25) #[true, true, true, false, false] rfl rfl (by kernel_rfl) (by decide) (fun K hK => ?_)
    refine goes_ Tryd.func15 (by kernel_rfl) rfl #[.agg #[.int .i64 a.f0, .string a.f1, .int .i64 a.f2, .slice A_3 a.f3.length A_c3, .slice A_4 a.f4.length A_c4]] (by rfl) rfl rfl (by (try simp only [List.map_toArray, List.map_cons, List.map_nil]); first | done | rfl) ?_
    refine (HZ.out ▸ specStrip_any a A_3 A_c3 A_4 A_c4 wd HFD.out.now (by have := HAT.out; omega)).mono ?_
    rintro e w9 ⟨v3, v4, rfl, hn, hb0⟩
    obtain ⟨B_3, B_c3, B_4, B_c4, rfl, rfl, hf⟩ := NewF.toS hn
    have HFB := Lib.hid hf
    have HLB := Lib.hid (show w.heap.size + 1 < wd.heap.size from by have := HDD.out.size; have := HW2.out; omega)
    have HD9 := HDD.out.later hb0
    have hi := HD9.is
    have hb := HD9.b
    have hk := KeepBut.of_below hb0 g none
    clear hf hn HD9 hb0
    refine ⟨_, rfl, ?_⟩
    replace HKD := Lib.hid (hk.blk HKD.out HG5.out (by simp))
    replace HRD2 := Lib.hid (hk.blk HRD2.out (fun e => HG2.out e.symm) (by simp))
    replace HRD3 := Lib.hid (hk.blk HRD3.out (fun e => HG3.out e.symm) (by simp))
    replace HFD := Lib.hid (HFD.out.keep hk HL2.out)
    replace HDD := Lib.hid (HDD.out.call hi hb hk)
    clear hi hb hk
    refine hK.out _ _ (fm_cells HKD.out) (fun hHeld => ?_)
    clear hK K
    refine norm_ (a' := ?_) ?_ ?_
    rotate_left
    · show Act.put _ (some 25) _ = _
      simp only [Act.put, List.setIfInBounds_toArray, List.set_cons_zero, List.set_cons_succ, i64_w, i32_w]
      rfl
    obtain ⟨z0, z1, z2, z3, z4⟩ := fm_cells HRD2.out
    obtain ⟨f0, f1, f2, f3, f4⟩ := fm_free HRD2.out
    obtain ⟨st1, st2, st3⟩ := st5 HRD2.out (.int .i64 a.f0) (.string a.f1) (.int .i64 a.f2) (.slice A_3 a.f3.length A_c3) (.slice A_4 a.f4.length A_c4)
    have hn5 : w5.heap.size ≠ w.heap.size := by have := HW2.out; have := HW5.out; omega
    have hn6 : w5.heap.size ≠ w.heap.size + 1 := by have := HW2.out; have := HW5.out; omega
    have K5 := Lib.hid ((st2 w5.heap.size hn5).trans HKD.out)
    have R3 := Lib.hid ((st2 (w.heap.size + 1) (by omega)).trans HRD3.out)
    have R2 := Lib.hid st1
    have FA := Lib.hid (HFD.out.move (st3 0 w9 (Below.refl 0 _) (Nat.zero_le _)).size (fun b h1 h2 => st2 b (by have := HW2.out; have := HW4.out; omega)))
    have FB := Lib.hid (HFB.out.move (st3 0 w9 (Below.refl 0 _) (Nat.zero_le _)).size (fun b h1 h2 => st2 b (by have := HLB.out; omega)))
    have BB := Lib.hid (st3 _ _ HDD.out.b (Nat.le_refl _))
    clear st1 st2 st3
    refine one_ (i := 3) (N := none) #[true, true, true, true, false] rfl rfl (by kernel_rfl) (by decide) (fun K hK => ?_)
    refine skip_ (w1 := ?_) (by rfl) rfl ?_ ?_
    rotate_left
    · go_simp
      rfl
    refine hK.out _ _ (fm_cells K5.out) (fun hHeld => ?_)
    clear hK K z0 z1 z2 z3 z4 f0 f1 f2 f3 f4
    generalize World.setCell (World.setCell (World.setCell (World.setCell (World.setCell w9 _ _) _ _) _ _) _ _) _ _ = wx at K5 R3 R2 FA FB BB hHeld ⊢
    obtain ⟨z0, z1, z2, z3, z4⟩ := fm_cells R3.out
    obtain ⟨f0, f1, f2, f3, f4⟩ := fm_free R3.out
    obtain ⟨st1, st2, st3⟩ := st5 R3.out (.int .i64 z.f0) (.string z.f1) (.int .i64 z.f2) (.slice B_3 z.f3.length B_c3) (.slice B_4 z.f4.length B_c4)
    have K5' := Lib.hid ((st2 w5.heap.size hn6).trans K5.out)
    have R2' := Lib.hid ((st2 w.heap.size (by omega)).trans R2.out)
    have R3' := Lib.hid st1
    have FA' := Lib.hid (FA.out.move (st3 0 wx (Below.refl 0 _) (Nat.zero_le _)).size (fun b h1 h2 => st2 b (by have := HW2.out; have := HW4.out; omega))).now
    have FB' := Lib.hid (FB.out.move (st3 0 wx (Below.refl 0 _) (Nat.zero_le _)).size (fun b h1 h2 => st2 b (by have := HLB.out; omega))).now
    have BB' := Lib.hid (st3 _ _ BB.out (by omega))
    clear st1 st2 st3 FA FB BB R2 K5 R3
    refine one_ (i := 4) (N := none) #[true, true, true, true, true] rfl rfl (by kernel_rfl) (by decide) (fun K hK => ?_)
    refine skip_ (w1 := ?_) (by rfl) rfl ?_ ?_
    rotate_left
    · go_simp
      rfl
    refine hK.out _ _ (fm_cells K5'.out) (fun hHeld => ?_)
    clear hK K z0 z1 z2 z3 z4 f0 f1 f2 f3 f4
    generalize World.setCell (World.setCell (World.setCell (World.setCell (World.setCell wx _ _) _ _) _ _) _ _) _ _ = wy at K5' R2' R3' FA' FB' BB' hHeld ⊢
    refine done_ (by kernel_rfl) ?_
    obtain ⟨z0, z1, z2, z3, z4⟩ := fm_cells R2'.out
    obtain ⟨y0, y1, y2, y3, y4⟩ := fm_cells R3'.out
    try go_wp2_with fail
    refine bodyPost_ret (v := .tuple #[.agg #[.int .i64 a.f0, .string a.f1, .int .i64 a.f2, .slice A_3 a.f3.length A_c3, .slice A_4 a.f4.length A_c4], .agg #[.int .i64 z.f0, .string z.f1, .int .i64 z.f2, .slice B_3 z.f3.length B_c3, .slice B_4 z.f4.length B_c4]]) (by simp [results, Tryd.results8, go_sem, z0, z1, z2, z3, z4, y0, y1, y2, y3, y4]) rfl ?_
    exact ⟨_, _, _, _, _, _, _, _, rfl, FA'.out, FB'.out, BB'.out⟩
  have t1 : (v == 1) = false := beq_eq_false_iff_ne.mpr v1
  obtain ⟨y, q2, a2, b2, f2, k1⟩ := mutate_ex hs a (by omega) (q1 + 1) (by omega)
  obtain ⟨b, q3, a3, b3, f3, k2⟩ := mutate_ex hs y (by omega) q2 (by omega)
  refine ⟨a, b, hat, by omega, fun A c w hr hc => ?_⟩
  have K1 := Lib.hid k1
  have K2 := Lib.hid k2
  clear k1 k2 a2 b2 f2 a3 b3 f3 v0 v1 hs a0 b0 a1 b1 f1 s0 s1 z1 hB hat
  go_enter Tryd.func8, Tryd.ntmps8
  go_wp2_with fail
  refine (HO.out A c w _ (below_step (below_new _ _) (below_new _ _)) hr hc).mono ?_
  rintro e w2 ⟨g, rfl, hi, hb, hb2⟩
  obtain ⟨kr2, kr3, hbw⟩ := two_new hb2
  have HD := Lib.hid (Dr.new hi hb)
  have HG2 := Lib.hid (show g ≠ w.heap.size from Q.IsS78.ne_blk hi kr2 (by decide))
  have HG3 := Lib.hid (show g ≠ w.heap.size + 1 from Q.IsS78.ne_blk hi kr3 (by decide))
  have HR2 := Lib.hid kr2
  have HR3 := Lib.hid kr3
  have HW2 := Lib.hid (show w.heap.size + 1 < w2.heap.size from blk_lt kr3)
  clear hi hb hb2 kr2 kr3 hbw
  go_wp2_with fail
  refine (HS0.out g w w2 HD.out.is HD.out.b).mono ?_
  rintro e w4 ⟨X_3, X_c3, X_4, X_c4, rfl, hf, hi, hb, hk⟩
  have HF0 := Lib.hid hf.now
  replace HD := Lib.hid (HD.out.call hi hb hk)
  clear hi hb hk hf
  go_wp2_with fail
  refine (HS1.out g X_3 X_c3 X_4 X_c4 w w4 HD.out.is HD.out.b HF0.out).mono ?_
  intro e w5 hp
  obtain ⟨A_3, A_c3, A_4, A_c4, rfl, hf, hi, hb, hk⟩ := hp.get
  have HF2 := Lib.hid hf
  have HL2 := Lib.hid (show g < w4.heap.size from HD.out.ltW)
  have HW4 := Lib.hid (show w2.heap.size ≤ w4.heap.size from HD.out.size)
  have HW5 := Lib.hid (show w2.heap.size ≤ w5.heap.size from Nat.le_trans HD.out.size hk.1)
  replace HD := Lib.hid (HD.out.call hi hb hk)
  clear hi hb hk hf hp
  go_wp2_with fail
  refine (pick_at HE2.out g w _ (HD.out.later (below_new _ _)).is (HD.out.later (below_new _ _)).b).mono ?_
  rintro e w6 ⟨rfl, hi, hb, hk⟩
  have HD5 := Lib.hid ((HD.out.later (below_new _ (.cells #[.int .i64 a.f0, .string a.f1, .int .i64 a.f2, .slice A_3 a.f3.length A_c3, .slice A_4 a.f4.length A_c4] 26))).call hi hb hk)
  have HG5 := Lib.hid (show w5.heap.size ≠ g from by have := HL2.out; have := HD.out.size; have := HD.out.lt; have := HW5.out; omega)
  have HK5 := Lib.hid (show w6.heap[w5.heap.size]? = some (.cells #[.int .i64 a.f0, .string a.f1, .int .i64 a.f2, .slice A_3 a.f3.length A_c3, .slice A_4 a.f4.length A_c4] 26) from hk.blk (blk_new w5 _) HG5.out (by simp))
  have HF6 := Lib.hid ((HF2.out.later (below_new _ (.cells #[.int .i64 a.f0, .string a.f1, .int .i64 a.f2, .slice A_3 a.f3.length A_c3, .slice A_4 a.f4.length A_c4] 26))).keep hk HL2.out)
  clear hi hb hk
  go_wp2_with fail
  have HDD := Lib.hid (HD5.out.later (below_drew (Below.refl _ _)))
  have HKD := Lib.hid (blk_drew HK5.out)
  have HRD2 := Lib.hid (blk_drew (HD5.out.kp.blk HR2.out (fun e => HG2.out e.symm) (by simp)))
  have HRD3 := Lib.hid (blk_drew (HD5.out.kp.blk HR3.out (fun e => HG3.out e.symm) (by simp)))
  have HFD := Lib.hid (HF6.out.later (below_drew (Below.refl _ _)))
  refine start_ (n := 8) (S := (fun W : World => W.cell? ⟨w5.heap.size, 0, none⟩ = some (.int .i64 a.f0) ∧ W.cell? ⟨w5.heap.size, 1, none⟩ = some (.string a.f1) ∧ W.cell? ⟨w5.heap.size, 2, none⟩ = some (.int .i64 a.f2) ∧ W.cell? ⟨w5.heap.size, 3, none⟩ = some (.slice A_3 a.f3.length A_c3) ∧ W.cell? ⟨w5.heap.size, 4, none⟩ = some (.slice A_4 a.f4.length A_c4))) (ds := []) #[false, false, false, false, false, false, false, false] (by kernel_rfl) rfl rfl (fm_cells HKD.out) (fun hHeld => ?_)
  generalize w6.drew = wd at HDD HKD HRD2 HRD3 HFD hHeld ⊢
  refine take_ (i := 0) (N := some 26) (v := ?_) (a' := ?_) #[true, false, false, false, false, false, false, false] rfl rfl (by kernel_rfl) (fun _ _ _ h => h) (Or.inl ⟨by rfl, ?_⟩) hHeld ?_ ?_
  rotate_left
  · rintro w' ⟨s0, s1, s2, s3, s4⟩
    go_simp
    with_reducible rfl
  rotate_left
  · simp only [Act.put, List.setIfInBounds_toArray, List.set_cons_zero, List.set_cons_succ, i64_w, i32_w]
    rfl
  refine pure_ (i := 1) (N := some 27) (v := ?_) (a' := ?_) #[true, true, false, false, false, false, false, false] rfl rfl (by kernel_rfl) (fun _ _ _ h => h) (Or.inl ⟨by rfl, ?_⟩) ?_ ?_
  rotate_left
  · intro w'
    go_simp
    with_reducible rfl
  rotate_left
  · simp only [Act.put, List.setIfInBounds_toArray, List.set_cons_zero, List.set_cons_succ, i64_w, i32_w]
    rfl
  refine pure_ (i := 2) (N := some 28) (v := ?_) (a' := ?_) #[true, true, true, false, false, false, false, false] rfl rfl (by kernel_rfl) (fun _ _ _ h => h) (Or.inl ⟨by rfl, ?_⟩) ?_ ?_
  rotate_left
  · intro w'
    go_simp
    with_reducible rfl
  rotate_left
  · simp only [Act.put, List.setIfInBounds_toArray, List.set_cons_zero, List.set_cons_succ, i64_w, i32_w]
    rfl
  refine take_ (i := 3) (N := some 29) (v := ?_) (a' := ?_) #[true, true, true, true, false, false, false, false] rfl rfl (by kernel_rfl) (fun _ _ _ h => h) (Or.inl ⟨by rfl, ?_⟩) hHeld ?_ ?_
  rotate_left
  · rintro w' ⟨s0, s1, s2, s3, s4⟩
    go_simp
    with_reducible rfl
  rotate_left
  · simp only [Act.put, List.setIfInBounds_toArray, List.set_cons_zero, List.set_cons_succ, i64_w, i32_w]
    rfl
  refine one_ (i := 4) (N := some 30) #[true, true, true, true, true, false, false, false] rfl rfl (by kernel_rfl) (by decide) (fun K hK => ?_)
  refine goes_ Tryd.func32 (by kernel_rfl) rfl #[.pointer (some ⟨g, 0, none⟩), .agg #[.int .i64 a.f0, .string a.f1, .int .i64 a.f2, .slice A_3 a.f3.length A_c3, .slice A_4 a.f4.length A_c4]] (by rfl) rfl rfl (by (try simp only [List.map_toArray, List.map_cons, List.map_nil]); first | done | rfl) ?_
  refine (K1.out g A_3 A_c3 A_4 A_c4 w wd HDD.out.is HDD.out.b HFD.out.now).mono ?_
  intro e w9 hp
  obtain ⟨C_3, C_c3, C_4, C_c4, rfl, hf, hi, hb, hk⟩ := hp.get
  have HFC := Lib.hid hf.now
  clear hf hp
  refine ⟨_, rfl, ?_⟩
  replace HKD := Lib.hid (hk.blk HKD.out HG5.out (by simp))
  replace HRD2 := Lib.hid (hk.blk HRD2.out (fun e => HG2.out e.symm) (by simp))
  replace HRD3 := Lib.hid (hk.blk HRD3.out (fun e => HG3.out e.symm) (by simp))
  replace HFD := Lib.hid (HFD.out.keep hk HL2.out)
  replace HDD := Lib.hid (HDD.out.call hi hb hk)
  clear hi hb hk
  refine hK.out _ _ (fm_cells HKD.out) (fun hHeld => ?_)
  clear hK K
  refine norm_ (a' := ?_) ?_ ?_
  rotate_left
  · show Act.put _ (some 30) _ = _
    simp only [Act.put, List.setIfInBounds_toArray, List.set_cons_zero, List.set_cons_succ, i64_w, i32_w]
    rfl
  refine one_ (i := 5) (N := some 31) #[true, true, true, true, true, true, false, false] rfl rfl (by kernel_rfl) (by decide) (fun K hK => ?_)
  refine goes_ Tryd.func32 (by kernel_rfl) rfl #[.pointer (some ⟨g, 0, none⟩), .agg #[.int .i64 y.f0, .string y.f1, .int .i64 y.f2, .slice C_3 y.f3.length C_c3, .slice C_4 y.f4.length C_c4]] (by rfl) rfl rfl (by (try simp only [List.map_toArray, List.map_cons, List.map_nil]); first | done | rfl) ?_
  refine (K2.out g C_3 C_c3 C_4 C_c4 w w9 HDD.out.is HDD.out.b HFC.out).mono ?_
  intro e w10 hp
  obtain ⟨B_3, B_c3, B_4, B_c4, rfl, hf, hi, hb, hk⟩ := hp.get
  have HFB := Lib.hid hf
  have HLB := Lib.hid (show w.heap.size + 1 < w9.heap.size from by have := HDD.out.size; have := HW2.out; omega)
  clear hf hp
  refine ⟨_, rfl, ?_⟩
  replace HKD := Lib.hid (hk.blk HKD.out HG5.out (by simp))
  replace HRD2 := Lib.hid (hk.blk HRD2.out (fun e => HG2.out e.symm) (by simp))
  replace HRD3 := Lib.hid (hk.blk HRD3.out (fun e => HG3.out e.symm) (by simp))
  replace HFD := Lib.hid (HFD.out.keep hk HL2.out)
  replace HDD := Lib.hid (HDD.out.call hi hb hk)
  clear hi hb hk
  refine hK.out _ _ (fm_cells HKD.out) (fun hHeld => ?_)
  clear hK K
  refine norm_ (a' := ?_) ?_ ?_
  rotate_left
  · show Act.put _ (some 31) _ = _
    simp only [Act.put, List.setIfInBounds_toArray, List.set_cons_zero, List.set_cons_succ, i64_w, i32_w]
    rfl
  obtain ⟨z0, z1, z2, z3, z4⟩ := fm_cells HRD2.out
  obtain ⟨f0, f1, f2, f3, f4⟩ := fm_free HRD2.out
  obtain ⟨st1, st2, st3⟩ := st5 HRD2.out (.int .i64 a.f0) (.string a.f1) (.int .i64 a.f2) (.slice A_3 a.f3.length A_c3) (.slice A_4 a.f4.length A_c4)
  have hn5 : w5.heap.size ≠ w.heap.size := by have := HW2.out; have := HW5.out; omega
  have hn6 : w5.heap.size ≠ w.heap.size + 1 := by have := HW2.out; have := HW5.out; omega
  have K5 := Lib.hid ((st2 w5.heap.size hn5).trans HKD.out)
  have R3 := Lib.hid ((st2 (w.heap.size + 1) (by omega)).trans HRD3.out)
  have R2 := Lib.hid st1
  have FA := Lib.hid (HFD.out.move (st3 0 w10 (Below.refl 0 _) (Nat.zero_le _)).size (fun b h1 h2 => st2 b (by have := HW2.out; have := HW4.out; omega)))
  have FB := Lib.hid (HFB.out.move (st3 0 w10 (Below.refl 0 _) (Nat.zero_le _)).size (fun b h1 h2 => st2 b (by have := HLB.out; omega)))
  have BB := Lib.hid (st3 _ _ HDD.out.b (Nat.le_refl _))
  clear st1 st2 st3
  refine one_ (i := 6) (N := none) #[true, true, true, true, true, true, true, false] rfl rfl (by kernel_rfl) (by decide) (fun K hK => ?_)
  refine skip_ (w1 := ?_) (by rfl) rfl ?_ ?_
  rotate_left
  · go_simp
    rfl
  refine hK.out _ _ (fm_cells K5.out) (fun hHeld => ?_)
  clear hK K z0 z1 z2 z3 z4 f0 f1 f2 f3 f4
  generalize World.setCell (World.setCell (World.setCell (World.setCell (World.setCell w10 _ _) _ _) _ _) _ _) _ _ = wx at K5 R3 R2 FA FB BB hHeld ⊢
  obtain ⟨z0, z1, z2, z3, z4⟩ := fm_cells R3.out
  obtain ⟨f0, f1, f2, f3, f4⟩ := fm_free R3.out
  obtain ⟨st1, st2, st3⟩ := st5 R3.out (.int .i64 b.f0) (.string b.f1) (.int .i64 b.f2) (.slice B_3 b.f3.length B_c3) (.slice B_4 b.f4.length B_c4)
  have K5' := Lib.hid ((st2 w5.heap.size hn6).trans K5.out)
  have R2' := Lib.hid ((st2 w.heap.size (by omega)).trans R2.out)
  have R3' := Lib.hid st1
  have FA' := Lib.hid (FA.out.move (st3 0 wx (Below.refl 0 _) (Nat.zero_le _)).size (fun b h1 h2 => st2 b (by have := HW2.out; have := HW4.out; omega))).now
  have FB' := Lib.hid (FB.out.move (st3 0 wx (Below.refl 0 _) (Nat.zero_le _)).size (fun b h1 h2 => st2 b (by have := HLB.out; omega))).now
  have BB' := Lib.hid (st3 _ _ BB.out (by omega))
  clear st1 st2 st3 FA FB BB R2 K5 R3
  refine one_ (i := 7) (N := none) #[true, true, true, true, true, true, true, true] rfl rfl (by kernel_rfl) (by decide) (fun K hK => ?_)
  refine skip_ (w1 := ?_) (by rfl) rfl ?_ ?_
  rotate_left
  · go_simp
    rfl
  refine hK.out _ _ (fm_cells K5'.out) (fun hHeld => ?_)
  clear hK K z0 z1 z2 z3 z4 f0 f1 f2 f3 f4
  generalize World.setCell (World.setCell (World.setCell (World.setCell (World.setCell wx _ _) _ _) _ _) _ _) _ _ = wy at K5' R2' R3' FA' FB' BB' hHeld ⊢
  refine done_ (by kernel_rfl) ?_
  obtain ⟨z0, z1, z2, z3, z4⟩ := fm_cells R2'.out
  obtain ⟨y0, y1, y2, y3, y4⟩ := fm_cells R3'.out
  try go_wp2_with fail
  refine bodyPost_ret (v := .tuple #[.agg #[.int .i64 a.f0, .string a.f1, .int .i64 a.f2, .slice A_3 a.f3.length A_c3, .slice A_4 a.f4.length A_c4], .agg #[.int .i64 b.f0, .string b.f1, .int .i64 b.f2, .slice B_3 b.f3.length B_c3, .slice B_4 b.f4.length B_c4]]) (by simp [results, Tryd.results8, go_sem, z0, z1, z2, z3, z4, y0, y1, y2, y3, y4]) rfl ?_
  exact ⟨_, _, _, _, _, _, _, _, rfl, FA'.out, FB'.out, BB'.out⟩
end Go.Proofs.YteeepenncddnjaaDoor
end
section
namespace Go.Proofs.YteeepenncddnjaaDoor
open Go.RowKit Go.Proofs.YteeepenncddnjaaDoorW.PrintWords Go.Proofs.YteeepenncddnjaaDoorW.PrintLast Go.Proofs.YteeepenncddnjaaDoorW.PrintMore
set_option linter.unusedVariables false
set_option linter.unusedSimpArgs false
def B8 (l : List UInt8) : ByteArray := ⟨l.toArray⟩
theorem B8_toList (l : List UInt8) : (B8 l).data.toList = l := rfl
theorem B8_size (l : List UInt8) : (B8 l).size = l.length := by simp [B8, ByteArray.size]
theorem B8_ext {a b : ByteArray} (h : a.data.toList = b.data.toList) : a = b := by
  cases a; cases b; simp only [ByteArray.mk.injEq]; exact Array.toList_inj.1 h
theorem B8_append (a b : List UInt8) : B8 a ++ B8 b = B8 (a ++ b) := B8_ext (by simp [B8])
theorem B8_of (s : ByteArray) : B8 s.data.toList = s := B8_ext rfl
theorem B8_map (l : List (List UInt8)) : (l.map B8).map (·.data.toList) = l := by
  induction l with
  | nil => rfl
  | cons x r ih => simp only [List.map_cons, ih]; rfl
/-! Digits -/
theorem itoa_pos (n : Int) (h : 0 ≤ n) : Lib.itoa n = Lib.decDigits n.toNat := by unfold Lib.itoa; rw [if_neg (by omega)]
theorem decDigits_len : ∀ (k n : Nat), n < 10 ^ (k + 1) → (Lib.decDigits n).length ≤ k + 1
  | k, n, h => by
    by_cases h1 : n < 10
    · rw [Lib.decDigits, dif_pos h1]; simp
    · cases k with
      | zero => omega
      | succ k =>
        rw [Lib.decDigits, dif_neg h1]
        have := decDigits_len k (n / 10) (by rw [Nat.pow_succ] at h; omega)
        simp; omega
theorem decDigits_ne (n : Nat) : Lib.decDigits n ≠ [] := by
  rw [Lib.decDigits]
  split
  · simp
  · simp
theorem itoa_len (n : Int) (h0 : 0 ≤ n) (h1 : n ≤ 999) : (Lib.itoa n).length ≤ 3 := by
  rw [itoa_pos n h0]; exact decDigits_len 2 n.toNat (by omega)
/-! Joining -/
def lens : List (List UInt8) → Nat
  | [] => 0
  | x :: r => x.length + 1 + lens r
theorem join_len (xs : List (List UInt8)) (s : UInt8) : (Lib.join xs [s]).length ≤ lens xs := by
  cases xs with
  | nil => simp [Lib.join_nil, lens]
  | cons x r =>
    rw [Lib.join_cons]
    have : ∀ r, (Lib.joinTail [s] r).length = lens r := by
      intro r
      induction r with
      | nil => rfl
      | cons y r ih => simp only [Lib.joinTail, List.map_cons, List.flatten_cons, List.length_append, lens] at ih ⊢; rw [ih]; simp; omega
    rw [List.length_append, this]
    simp [lens]
/-! Texts -/
def digs (sc : List Int) : List (List UInt8) := sc.map Lib.itoa
def scTx (sc : List Int) : List UInt8 := if sc.length = 0 then [] else 123 :: (Lib.join (digs sc) [44] ++ [125])
def nameT (s : ByteArray) (sc : List Int) : List UInt8 := s.data.toList ++ scTx sc
mutual
def Fm.txt : Fm → List UInt8
  | ⟨k, s, n, sc, ks⟩ => if k = 2 then Lib.itoa n else if k = 1 then nameT s sc else 40 :: (Lib.join (txtL ks) [32] ++ [41])
def txtL : List Fm → List (List UInt8)
  | [] => []
  | k :: ks => k.txt :: txtL ks
end
theorem Fm.txt_eq (x : Fm) : x.txt = if x.f0 = 2 then Lib.itoa x.f2 else if x.f0 = 1 then nameT x.f1 x.f3 else 40 :: (Lib.join (txtL x.f4) [32] ++ [41]) := by cases x; simp only [Fm.txt]
theorem txtL_map (l : List Fm) : txtL l = l.map Fm.txt := by
  induction l with
  | nil => simp [txtL]
  | cons x r ih => simp only [txtL, ih, List.map_cons]
theorem txtL_len (l : List Fm) : (txtL l).length = l.length := by rw [txtL_map, List.length_map]
theorem txtL_take (l : List Fm) (i : Nat) (h : i < l.length) : (txtL l).take (i + 1) = (txtL l).take i ++ [l[i].txt] := by
  rw [List.take_succ_eq_append_getElem (by rw [txtL_len]; exact h)]
  congr 2
  simp [txtL_map]
theorem digs_len (l : List Int) : (digs l).length = l.length := by simp [digs]
theorem digs_take (l : List Int) (i : Nat) (h : i < l.length) : (digs l).take (i + 1) = (digs l).take i ++ [Lib.itoa l[i]] := by
  rw [List.take_succ_eq_append_getElem (by rw [digs_len]; exact h)]
  congr 2
  simp [digs]
theorem lens_digs (sc : List Int) (h : ScOk sc) : lens (digs sc) ≤ 4 * sc.length := by
  have key : ∀ sc : List Int, (∀ x, x ∈ sc → 1 ≤ x ∧ x ≤ 99) → lens (digs sc) ≤ 4 * sc.length := by
    intro sc hs
    induction sc with
    | nil => simp [digs, lens]
    | cons y r ih =>
      have h1 := hs y List.mem_cons_self
      have h2 := itoa_len y (by omega) (by omega)
      have h3 := ih (fun x hx => hs x (List.mem_cons_of_mem _ hx))
      simp only [digs, List.map_cons, lens, List.length_cons] at h3 ⊢
      omega
  refine key sc (fun x hx => ?_)
  obtain ⟨i, hi, rfl⟩ := List.getElem_of_mem hx
  have := h.2 i hi
  omega
theorem nmOk_sz12 {s : ByteArray} (h : NmOk s) : s.size ≤ 12 := by
  rcases h with h | h | h
  · have := congrArg List.length h; rw [ByteArray.toList_eq, Array.length_toList] at this; have e : s.size = s.data.size := rfl; simp at this; omega
  · have := congrArg List.length h; rw [ByteArray.toList_eq, Array.length_toList] at this; have e : s.size = s.data.size := rfl; simp at this; omega
  · exact h.2.1
theorem nameT_len {s : ByteArray} {sc : List Int} (h1 : NmOk s) (h2 : ScOk sc) : (nameT s sc).length ≤ 110 := by
  have a := nmOk_sz12 h1
  have b := lens_digs sc h2
  have c := join_len (digs sc) 44
  have d := h2.1
  have e : s.data.toList.length = s.size := Array.length_toList
  unfold nameT scTx
  split
  · simp; omega
  · simp; omega
/-- A form in order has a short text. -/
theorem txt_len : ∀ (n : Nat) (x : Fm), IsOk n x → x.txt.length + 1 ≤ 200 * x.size
  | 0, x, h => absurd h (fun h => h)
  | n + 1, x, h => by
    rw [Fm.txt_eq, Fm.size_eq]
    by_cases h1 : x.f0 = 2
    · rw [if_pos h1]
      have q := (isOk2 h1).1 h
      have := itoa_len x.f2 q.2.1 q.2.2.1
      omega
    · rw [if_neg h1]
      by_cases h2 : x.f0 = 1
      · rw [if_pos h2]
        have q := (isOk1 h2).1 h
        have := nameT_len q.1 q.2.2.1
        omega
      · rw [if_neg h2]
        have q := (isOk3 h2 h1).1 h
        have key : ∀ l : List Fm, (∀ k, k ∈ l → IsOk n k) → lens (txtL l) ≤ 200 * sizes l := by
          intro l hl
          induction l with
          | nil => simp [txtL, lens, sizes]
          | cons y r ih =>
            have := txt_len n y (hl y List.mem_cons_self)
            have := ih (fun k hk => hl k (List.mem_cons_of_mem _ hk))
            simp only [txtL, lens, sizes]
            omega
        have := key x.f4 q.2.2.2.2
        have := join_len (txtL x.f4) 32
        simp
        omega
theorem lens_txt {n : Nat} {l : List Fm} (hl : ∀ k, k ∈ l → IsOk n k) : lens (txtL l) ≤ 200 * sizes l := by
  induction l with
  | nil => simp [txtL, lens, sizes]
  | cons y r ih =>
    have := txt_len n y (hl y List.mem_cons_self)
    have := ih (fun k hk => hl k (List.mem_cons_of_mem _ hk))
    simp only [txtL, lens, sizes]
    omega
end Go.Proofs.YteeepenncddnjaaDoor
end
section
namespace Go.Proofs.YteeepenncddnjaaDoor.Q
open Go.RowKit Go.Proofs.YteeepenncddnjaaDoorW.PrintWords Go.Proofs.YteeepenncddnjaaDoorW.PrintLast Go.Proofs.YteeepenncddnjaaDoorW.PrintMore
attribute [local go_sem] max2_int min2_int max_two min_two max_three min_three max_four min_four   -- for this text's walks alone
set_option linter.unusedVariables false
set_option linter.unusedSimpArgs false

end Go.Proofs.YteeepenncddnjaaDoor.Q
end
section
namespace Go.Proofs.YteeepenncddnjaaDoor
open Go.RowKit Go.Proofs.YteeepenncddnjaaDoorW.PrintWords Go.Proofs.YteeepenncddnjaaDoorW.PrintLast Go.Proofs.YteeepenncddnjaaDoorW.PrintMore
set_option linter.unusedVariables false
set_option linter.unusedSimpArgs false
end Go.Proofs.YteeepenncddnjaaDoor
end
section
namespace Go.Proofs.YteeepenncddnjaaDoor
open Go.RowKit Go.Proofs.YteeepenncddnjaaDoorW.PrintWords Go.Proofs.YteeepenncddnjaaDoorW.PrintLast Go.Proofs.YteeepenncddnjaaDoorW.PrintMore
set_option linter.unusedVariables false
set_option linter.unusedSimpArgs false
theorem szs_len (l : List Fm) : l.length ≤ sizes l := by
  induction l with
  | nil => simp [sizes]
  | cons y r ih => simp only [sizes, List.length_cons, Fm.size_eq y]; omega
def scP (sc : List Int) (i : Nat) : List UInt8 := if i = 0 then [] else 123 :: Lib.join ((digs sc).take i) [44]
def kdP (ks : List Fm) (i : Nat) : List UInt8 := 40 :: Lib.join ((txtL ks).take i) [32]
end Go.Proofs.YteeepenncddnjaaDoor
end
section
namespace Go.Proofs.YteeepenncddnjaaDoor
open Go.RowKit Go.Proofs.YteeepenncddnjaaDoorW.PrintWords Go.Proofs.YteeepenncddnjaaDoorW.PrintLast Go.Proofs.YteeepenncddnjaaDoorW.PrintMore
set_option linter.unusedVariables false
set_option linter.unusedSimpArgs false
theorem lens_ge (l : List (List UInt8)) : l.length ≤ lens l := by
  induction l with
  | nil => simp [lens]
  | cons x r ih => simp only [lens, List.length_cons]; omega
/-- A row of strings is joined. -/
theorem join_own {w : World} {B : Nat} {v : Value} (L : List (List UInt8)) (s : UInt8) (h : w.ownsRow B 9 1 v (L.map B8).length (encS (L.map B8))) (hl : lens L ≤ 1000000) :
    Calls Tryd.prog 65 #[v, .string ⟨#[s]⟩] w (Ret w (.string (B8 (Lib.join L [s])))) := by
  have hn := lens_ge L
  rcases h with ⟨_, ⟨rfl, h0⟩ | ⟨g, cap, cur, rfl, hg, hh, hnc, hcm, hcs, htake⟩⟩
  · have : L = [] := List.eq_nil_of_length_eq_zero (by simpa using h0)
    subst this
    exact join_none_any none 0 _ w
  · rw [Nat.mul_one] at hcs htake
    have hJ := join_len L s
    refine (join_any g 0 cap (L.map B8) ⟨#[s]⟩ w (fun j x hx => ?_) (blk_lt hh) (by simp; omega) hnc (by rw [B8_map]; show (Lib.join L [s]).length ≤ _; omega)).mono ?_
    · have hjl : j < (L.map B8).length := (List.getElem?_eq_some_iff.1 hx).1
      have e1 : (encS (L.map B8))[j]? = some (.string x) := by simp only [encs, List.getElem?_map, hx, Option.map_some]
      rw [← htake, List.getElem?_take_of_lt (by simpa using hjl)] at e1
      rw [Nat.zero_add]
      refine (blk_cell hh j).trans ?_
      rw [← e1]
      simp
    · rintro e w' ⟨rfl, hb⟩
      exact ⟨by rw [B8_map]; rfl, hb⟩
theorem own_nil {W : World} {g B : Nat} (hg : B ≤ g) (hb : W.heap[g]? = some (.cells #[] 9 (0, 0))) : W.ownsRow B 9 1 (.slice (some ⟨g, 0, none⟩) 0 0) (([] : List (List UInt8)).map B8).length (encS (([] : List (List UInt8)).map B8)) :=
  ⟨by simp [encs], .inr ⟨_, 0, #[], rfl, hg, hb, Nat.le_refl _, Nat.zero_le _, rfl, by simp [encs]⟩⟩
set_option maxHeartbeats 4000000 in
set_option maxRecDepth 100000 in
theorem formText_any : ∀ (n : Nat) (x : Fm) (A3 : Option Addr) (c3 : Nat) (A4 : Option Addr) (c4 : Nat) (w : World), FmIn w x A3 c3 A4 c4 → IsOk n x → x.size ≤ 400 → TabP w →
    Calls Tryd.prog 37 #[.agg #[.int .i64 x.f0, .string x.f1, .int .i64 x.f2, .slice A3 x.f3.length c3, .slice A4 x.f4.length c4]] w (Ret w (.string (B8 x.txt))) := by
  intro n
  induction n with
  | zero => intro x A3 c3 A4 c4 w hin hok hs htab; exact absurd hok (fun h => h)
  | succ n ih =>
    intro x A3 c3 A4 c4 w hin hok hs htab
    have hbx := below_new w (.cells #[.int .i64 x.f0, .string x.f1, .int .i64 x.f2, .slice A3 x.f3.length c3, .slice A4 x.f4.length c4] 26)
    have hkb := blk_new w (.cells #[.int .i64 x.f0, .string x.f1, .int .i64 x.f2, .slice A3 x.f3.length c3, .slice A4 x.f4.length c4] 26)
    obtain ⟨p0, p1, p2, p3, p4⟩ := fm_cells hkb
    have HI := Lib.hid hin
    obtain ⟨wB, hwB⟩ : ∃ wB, wB = w.alloc (.cells #[.int .i64 x.f0, .string x.f1, .int .i64 x.f2, .slice A3 x.f3.length c3, .slice A4 x.f4.length c4] 26) := ⟨_, rfl⟩
    rw [← hwB] at hbx hkb
    have HX := Lib.hid (And.intro hbx hkb)
    have HWB := Lib.hid hwB
    have HZB := Lib.hid (show wB.heap.size = w.heap.size + 1 by rw [hwB]; simp)
    have HTB := Lib.hid (fun W (hb : Below w.heap.size w W) => htab.below hb)
    by_cases k1 : x.f0 = 1
    · have t1 : (x.f0 == 1) = true := beq_iff_eq.mpr k1
      have q := (isOk1 k1).1 hok
      have hm3 : x.f3.length ≤ 24 := q.2.2.1.1
      have HT := Lib.hid (show x.txt = nameT x.f1 x.f3 by rw [Fm.txt_eq, if_neg (by omega), if_pos k1])
      have HS := Lib.hid q.2.2.1
      have hn := nmOk_sz12 q.1
      clear hin hok hs hbx hkb k1 q ih htab hwB
      by_cases hz : x.f3.length = 0
      · have tz : ((x.f3.length : Int) == 0) = true := by rw [beq_iff_eq]; omega
        have tz2 : (x.f3.length == 0) = true := by rw [beq_iff_eq]; omega
        have HE := Lib.hid (show x.f1 = B8 x.txt by rw [HT.out, nameT, scTx, if_pos hz, List.append_nil, B8_of])
        have HZ := Lib.hid hz
        clear hz
        go_enter Tryd.func37, Tryd.ntmps37
        go_wp2_with fail
        go_ret
        exact ⟨by rw [← HE.out]; rfl, below_new _ _⟩
      have tz : ((x.f3.length : Int) == 0) = false := by rw [beq_eq_false_iff_ne]; omega
      have tz2 : (x.f3.length == 0) = false := by rw [beq_eq_false_iff_ne]; omega
      have HZ := Lib.hid hz
      clear hz
      go_enter Tryd.func37, Tryd.ntmps37
      go_wp2_with fail
      clear p0 p1 p2 p3 p4
      go_loopg [3, 5, 23] x.f3.length (fun kq v3 v5 v23 w' => ∃ (i : Nat) (s : List ByteArray) (u : Value), i ≤ x.f3.length ∧ x.f3.length - i ≤ kq ∧ v23 = .int .i64 i ∧ v3 = u ∧ Aside0 (s = ((digs x.f3).take i).map B8) ∧ Aside0 (w'.ownsRow wB.heap.size 9 1 u s.length (encS s)) ∧ Aside0 (Below wB.heap.size wB w'))
      case atStart => exact ⟨0, [], _, Nat.zero_le _, by omega, rfl, rfl, ⟨rfl⟩, ⟨own_nil (by rw [HZB.out]; exact Nat.le_refl _) (by have := blk_new wB (.cells #[] 9); rw [HWB.out] at this; simpa using this)⟩, ⟨by rw [HWB.out]; exact below_new _ _⟩⟩
      case round =>
        obtain ⟨i, s, u, hi, hg, rfl, hu0, HS0, HO, HW⟩ := hrel
        have hu1 := hu0.symm
        subst hu1
        clear hu0
        obtain ⟨D, m, rfl, hDm, hDC⟩ := own_CS HO.out
        have hdl : s.length = i := by rw [HS0.out, List.length_map, List.length_take, digs_len]; omega
        by_cases hlt : i < x.f3.length
        · obtain ⟨ad, e, hcell⟩ := int_at (Kd.C_below HI.out.g3 (below_step HX.out.1 HW.out)) i hlt
          subst e
          have hv := HS.out.2 i hlt
          have HC := Lib.hid (itoa_any x.f3[i] wr (by omega) (by omega) (HTB.out _ (below_step HX.out.1 HW.out)))
          have HDL := Lib.hid (And.intro hdl hDC)
          clear hv hdl hDC
          go_wp2_with fail
          refine HC.out.mono ?_
          rintro e w1 ⟨rfl, hb0⟩
          have hn1 := below_new w1 (.cells #[.string (B8 (Lib.itoa x.f3[i]))] 9)
          have hb3 := below_step hb0 hn1
          have HR := Aside0.mk (Kd.R_of_own (ok := fun _ => True) (h1 := fun _ => rfl) (own_move HO.out (fun k hk => hb3.block k (own_lt HO.out k hk))) (fun _ _ => trivial))
          have HCN := Aside0.mk (one_str (blk_new w1 (.cells #[.string (B8 (Lib.itoa x.f3[i]))] 9)))
          have HB := Lib.hid (below_step HW.out hb3)
          have hi25 : i ≤ 24 := by omega
          clear hb0 hn1 hb3 hcell
          rw [show (⟨(Lib.itoa x.f3[i]).toArray⟩ : ByteArray) = B8 (Lib.itoa x.f3[i]) from rfl]
          go_wp2_with (first | ((with_reducible refine gate_dst (N := 31) rfl ?_); refine Kd.R_append_row Value.string ByteArray.empty (w0 := wB) wB.heap.size rfl (.tmp 27) (.tmp 30) 83 9 (.string ⟨#[]⟩) 16 rfl Tryd.underlying83 infoSt rfl (by decide) (.slice D s.length m) s [B8 (Lib.itoa x.f3[i])] (some ⟨w1.heap.size, 0, none⟩) 1 1 (fun _ => True) rfl rfl (fun _ _ => trivial) HR.out HCN.out HB.out HB.out.size (by have := HDL.out.1; omega) ?_; intro v1 w2 ho1 hb1 hg1 hat1; have HG := Lib.hid (And.intro (Kd.own_of_R ho1) hb1); clear ho1 hb1 hg1 hat1))
          go_roundg (x.f3.length - (i + 1))
          case measure => omega
          case rel =>
            refine ⟨i + 1, s ++ [B8 (Lib.itoa x.f3[i])], _, by omega, Nat.le_refl _, by go_num, rfl, ⟨by rw [HS0.out, digs_take x.f3 i hlt, List.map_append]; rfl⟩, ⟨?_⟩, ⟨HG.out.2⟩⟩
            have := HG.out.1
            exact this
        · obtain rfl : i = x.f3.length := by omega
          have hb9 := HW.out
          have hk9 := blk_below HX.out.2 hb9
          have hc1 : wr.cell? ⟨w.heap.size, 1, none⟩ = some (.string x.f1) := (fm_cells hk9).2.1
          have HJ := Lib.hid (fun W (hb : Below wr.heap.size wr W) => join_own (w := W) (B := wB.heap.size) (v := .slice D s.length m) (digs x.f3) 44 (by have := own_move HO.out (fun k hk => hb.block k (own_lt HO.out k hk)); rwa [show (digs x.f3).map B8 = s from by rw [HS0.out, List.take_of_length_le (by rw [digs_len]; exact Nat.le_refl _)]]) (by have := lens_digs x.f3 HS.out; omega))
          have HE := Lib.hid (show x.f1 ++ ⟨#[123]⟩ ++ B8 (Lib.join (digs x.f3) [44]) ++ ⟨#[125]⟩ = B8 x.txt by
            rw [HT.out, nameT, scTx, if_neg HZ.out, ← B8_of x.f1, show (⟨#[123]⟩ : ByteArray) = B8 [123] from rfl, show (⟨#[125]⟩ : ByteArray) = B8 [125] from rfl, B8_append, B8_append, B8_append, B8_toList]; simp [List.append_assoc])
          have hsz : (B8 (Lib.join (digs x.f3) [44])).size ≤ 1000 := by rw [B8_size]; have := join_len (digs x.f3) 44; have := lens_digs x.f3 HS.out; omega
          have HB := Lib.hid (below_step HX.out.1 hb9)
          clear hb9 hk9
          generalize B8 (Lib.join (digs x.f3) [44]) = t at hsz HE HJ
          have f1 : (9223372036854775807 < x.f1.size + 1) = False := eq_false (by omega)
          have f2 : (9223372036854775807 < x.f1.size + 1 + t.size) = False := eq_false (by omega)
          have f3 : (9223372036854775807 < x.f1.size + 1 + t.size + 1) = False := eq_false (by omega)
          clear hDC hdl
          go_wp2_with fail
          go_region_held3 (fun W => W.cell? ⟨w.heap.size, 1, none⟩ = some (.string x.f1)) (first | go_keep | exact ck0 (below_step (Below.refl _ _).drew hba) hc1)
            ((go_at_call 65; refine (HJ.out _ (Below.refl _ _).drew).mono ?_; rintro e wa ⟨rfl, hba⟩))
          have HB2 := Lib.hid (below_step HB.out (below_step (Below.refl _ _).drew hba))
          clear hba hc1
          go_wp2_with fail
          go_ret
          exact ⟨by rw [← HE.out]; rfl, HB2.out⟩
    have t1 : (x.f0 == 1) = false := beq_eq_false_iff_ne.mpr k1
    by_cases k2 : x.f0 = 2
    · have t2 : (x.f0 == 2) = true := beq_iff_eq.mpr k2
      have q := (isOk2 k2).1 hok
      have HT := Lib.hid (show B8 (Lib.itoa x.f2) = B8 x.txt by rw [Fm.txt_eq, if_pos k2])
      have HC := Lib.hid (fun W (hb : Below w.heap.size w W) => itoa_any x.f2 W (by omega) (by omega) (HTB.out W hb))
      have HN := Lib.hid (below_new w (.cells #[.int .i64 x.f0, .string x.f1, .int .i64 x.f2, .slice A3 x.f3.length c3, .slice A4 x.f4.length c4] 26))
      clear hin hok hs hbx hkb k1 k2 q ih htab hwB
      go_enter Tryd.func37, Tryd.ntmps37
      go_wp2_with fail
      refine (HC.out _ HN.out).mono ?_
      rintro e w1 ⟨rfl, hb⟩
      have HB := Lib.hid (below_step HN.out hb)
      clear hb p0 p1 p2 p3 p4
      go_wp2_with fail
      go_ret
      exact ⟨by rw [← HT.out]; rfl, HB.out⟩
    have t2 : (x.f0 == 2) = false := beq_eq_false_iff_ne.mpr k2
    have q := (isOk3 k1 k2).1 hok
    have hm4 : x.f4.length ≤ 400 := by have := szs_len x.f4; rw [Fm.size_eq] at hs; omega
    have HT := Lib.hid (show x.txt = 40 :: (Lib.join (txtL x.f4) [32] ++ [41]) by rw [Fm.txt_eq, if_neg k2, if_neg k1])
    have HK := Lib.hid q.2.2.2.2
    have HS := Lib.hid (show sizes x.f4 ≤ 399 by rw [Fm.size_eq] at hs; omega)
    have IH := Lib.hid ih
    clear hin hok hs hbx hkb k1 k2 q ih htab hwB
    go_enter Tryd.func37, Tryd.ntmps37
    go_wp2_with fail
    clear p0 p1 p2 p3 p4
    go_loopg [6, 8, 49] x.f4.length (fun kq v6 v8 v49 w' => ∃ (i : Nat) (s : List ByteArray) (u : Value), i ≤ x.f4.length ∧ x.f4.length - i ≤ kq ∧ v49 = .int .i64 i ∧ v6 = u ∧ Aside0 (s = ((txtL x.f4).take i).map B8) ∧ Aside0 (w'.ownsRow wB.heap.size 9 1 u s.length (encS s)) ∧ Aside0 (Below wB.heap.size wB w'))
    case atStart => exact ⟨0, [], _, Nat.zero_le _, by omega, rfl, rfl, ⟨rfl⟩, ⟨own_nil (by rw [HZB.out]; exact Nat.le_refl _) (by have := blk_new wB (.cells #[] 9); rw [HWB.out] at this; simpa using this)⟩, ⟨by rw [HWB.out]; exact below_new _ _⟩⟩
    case round =>
      obtain ⟨i, s, u, hi, hg, rfl, hu0, HS0, HO, HW⟩ := hrel
      have hu1 := hu0.symm
      subst hu1
      clear hu0
      obtain ⟨D, m, rfl, hDm, hDC⟩ := own_CS HO.out
      have hdl : s.length = i := by rw [HS0.out, List.length_map, List.length_take, txtL_len]; omega
      have HB0 := Lib.hid (below_step HX.out.1 HW.out)
      by_cases hlt : i < x.f4.length
      · obtain ⟨ad, G3, m3, G4, m4, e, g0, g1, g2, g3, g4, hk⟩ := kid_at HI.out.g4 i hlt
        subst e
        replace g0 := ck0 HB0.out g0
        replace g1 := ck0 HB0.out g1
        replace g2 := ck0 HB0.out g2
        replace g3 := ck0 HB0.out g3
        replace g4 := ck0 HB0.out g4
        have hko := HK.out _ (List.getElem_mem hlt)
        have hsz : x.f4[i].size ≤ 399 := by have := sizes_mem (List.getElem_mem hlt); have := HS.out; omega
        have hnb := below_new wr (.cells #[.int .i64 x.f4[i].f0, .string x.f4[i].f1, .int .i64 x.f4[i].f2, .slice G3 x.f4[i].f3.length m3, .slice G4 x.f4[i].f4.length m4] 26)
        have HC := Lib.hid (IH.out x.f4[i] G3 m3 G4 m4 (wr.alloc (.cells #[.int .i64 x.f4[i].f0, .string x.f4[i].f1, .int .i64 x.f4[i].f2, .slice G3 x.f4[i].f3.length m3, .slice G4 x.f4[i].f4.length m4] 26)) (hk.below (below_step HB0.out hnb)) hko (by omega) (HTB.out _ (below_step HB0.out hnb)))
        have HDL := Lib.hid (And.intro hdl hDC)
        have HNB := Lib.hid hnb
        clear hk hko hsz hdl hDC hnb
        go_wp2_with fail
        refine HC.out.mono ?_
        rintro e w1 ⟨rfl, hb0⟩
        clear g0 g1 g2 g3 g4
        have HTI := Lib.hid (show s ++ [B8 x.f4[i].txt] = ((txtL x.f4).take (i + 1)).map B8 by rw [HS0.out, txtL_take x.f4 i hlt, List.map_append]; rfl)
        generalize B8 x.f4[i].txt = t at HTI HC ⊢
        have hn1 := below_new w1 (.cells #[.string t] 9)
        have hb3 := below_step (below_step HNB.out hb0) hn1
        have HR := Aside0.mk (Kd.R_of_own (ok := fun _ => True) (h1 := fun _ => rfl) (own_move HO.out (fun k hk => hb3.block k (own_lt HO.out k hk))) (fun _ _ => trivial))
        have HCN := Aside0.mk (one_str (blk_new w1 (.cells #[.string t] 9)))
        have HB := Lib.hid (below_step HW.out hb3)
        have hi25 : i ≤ 400 := by omega
        clear hb0 hn1 hb3
        go_wp2_with (first | ((with_reducible refine gate_dst (N := 57) rfl ?_); refine Kd.R_append_row Value.string ByteArray.empty (w0 := wB) wB.heap.size rfl (.tmp 53) (.tmp 56) 83 9 (.string ⟨#[]⟩) 16 rfl Tryd.underlying83 infoSt rfl (by decide) (.slice D s.length m) s [t] (some ⟨w1.heap.size, 0, none⟩) 1 1 (fun _ => True) rfl rfl (fun _ _ => trivial) HR.out HCN.out HB.out HB.out.size (by have := HDL.out.1; omega) ?_; intro v1 w2 ho1 hb1 hg1 hat1; have HG := Lib.hid (And.intro (Kd.own_of_R ho1) hb1); clear ho1 hb1 hg1 hat1))
        go_roundg (x.f4.length - (i + 1))
        case measure => omega
        case rel =>
          refine ⟨i + 1, s ++ [t], _, by omega, Nat.le_refl _, by go_num, rfl, ⟨HTI.out⟩, ⟨?_⟩, ⟨HG.out.2⟩⟩
          have := HG.out.1
          exact this
      · obtain rfl : i = x.f4.length := by omega
        have HJ := Lib.hid (fun W (hb : Below wr.heap.size wr W) => join_own (w := W) (B := wB.heap.size) (v := .slice D s.length m) (txtL x.f4) 32 (by have := own_move HO.out (fun k hk => hb.block k (own_lt HO.out k hk)); rwa [show (txtL x.f4).map B8 = s from by rw [HS0.out, List.take_of_length_le (by rw [txtL_len]; exact Nat.le_refl _)]]) (by have := lens_txt HK.out; have := HS.out; omega))
        have HE := Lib.hid (show ⟨#[40]⟩ ++ B8 (Lib.join (txtL x.f4) [32]) ++ ⟨#[41]⟩ = B8 x.txt by
          rw [HT.out, show (⟨#[40]⟩ : ByteArray) = B8 [40] from rfl, show (⟨#[41]⟩ : ByteArray) = B8 [41] from rfl, B8_append, B8_append]; rfl)
        have hsz : (B8 (Lib.join (txtL x.f4) [32])).size ≤ 80000 := by rw [B8_size]; have := join_len (txtL x.f4) 32; have := lens_txt HK.out; have := HS.out; omega
        clear hDC hdl
        generalize B8 (Lib.join (txtL x.f4) [32]) = t at hsz HE HJ
        go_wp2_with fail
        refine (HJ.out _ (Below.refl _ _)).mono ?_
        rintro e w1 ⟨rfl, hb⟩
        have HB2 := Lib.hid (below_step HB0.out hb)
        clear hb
        go_wp2_with fail
        go_ret
        exact ⟨by rw [← HE.out]; rfl, HB2.out⟩
end Go.Proofs.YteeepenncddnjaaDoor
end
section
namespace Go.Proofs.YteeepenncddnjaaDoor
open Go.RowKit Go.Proofs.YteeepenncddnjaaDoorW.PrintWords Go.Proofs.YteeepenncddnjaaDoorW.PrintLast Go.Proofs.YteeepenncddnjaaDoorW.PrintMore
set_option linter.unusedVariables false
set_option linter.unusedSimpArgs false
noncomputable def fmtT (x : Fm) : ByteArray := if pB (FmOk x) = true then B8 x.txt else ⟨#[]⟩
set_option maxHeartbeats 4000000 in
set_option maxRecDepth 100000 in
theorem implFormat_any (x : Fm) (A3 : Option Addr) (c3 : Nat) (A4 : Option Addr) (c4 : Nat) (w : World) (hin : FmIn w x A3 c3 A4 c4) (ht : x.tot ≤ 1048576) (htab : TabP w) :
    Calls Tryd.prog 12 #[.agg #[.int .i64 x.f0, .string x.f1, .int .i64 x.f2, .slice A3 x.f3.length c3, .slice A4 x.f4.length c4]] w (Ret w (.string (fmtT x))) := by
  have hbx := below_new w (.cells #[.int .i64 x.f0, .string x.f1, .int .i64 x.f2, .slice A3 x.f3.length c3, .slice A4 x.f4.length c4] 26)
  have hkb := blk_new w (.cells #[.int .i64 x.f0, .string x.f1, .int .i64 x.f2, .slice A3 x.f3.length c3, .slice A4 x.f4.length c4] 26)
  obtain ⟨p0, p1, p2, p3, p4⟩ := fm_cells hkb
  have HI := Lib.hid hin
  have HX := Lib.hid (And.intro hbx hkb)
  have HTB := Lib.hid (fun W (hb : Below w.heap.size w W) => htab.below hb)
  have HC := Lib.hid (implValid_any x A3 c3 A4 c4 _ (hin.below hbx) ht)
  clear hin ht htab hbx hkb
  by_cases hv : FmOk x
  · have HT := Lib.hid (show fmtT x = B8 x.txt by rw [fmtT, if_pos (pB_iff.2 hv)])
    rw [← pB_yes hv] at HC
    have HV := Lib.hid hv
    clear hv
    go_enter Tryd.func12, Tryd.ntmps12
    go_wp2_with fail
    refine HC.out.mono ?_
    rintro e w1 ⟨rfl, hb⟩
    clear p0 p1 p2 p3 p4
    obtain ⟨p0, p1, p2, p3, p4⟩ := fm_cells (blk_below HX.out.2 hb)
    have HB := Lib.hid (below_step HX.out.1 hb)
    clear hb
    go_wp2_with fail
    refine (formText_any 40 x A3 c3 A4 c4 w1 (HI.out.below HB.out) HV.out.1 (by have := HV.out.2; omega) (HTB.out _ HB.out)).mono ?_
    rintro e w2 ⟨rfl, hb⟩
    have HB2 := Lib.hid (below_step HB.out hb)
    clear hb p0 p1 p2 p3 p4
    go_wp2_with fail
    go_ret
    exact ⟨by rw [HT.out]; rfl, HB2.out⟩
  · have HT := Lib.hid (show fmtT x = ⟨#[]⟩ by rw [fmtT, if_neg (fun h => hv (pB_iff.1 h))])
    rw [← pB_no hv] at HC
    clear hv
    go_enter Tryd.func12, Tryd.ntmps12
    go_wp2_with fail
    refine HC.out.mono ?_
    rintro e w1 ⟨rfl, hb⟩
    have HB := Lib.hid (below_step HX.out.1 hb)
    clear hb p0 p1 p2 p3 p4
    go_wp2_with fail
    go_ret
    exact ⟨by rw [HT.out]; rfl, HB.out⟩
end Go.Proofs.YteeepenncddnjaaDoor
end
section
namespace Go.Proofs.YteeepenncddnjaaDoor
open Go.RowKit Go.Proofs.YteeepenncddnjaaDoorW.PrintWords Go.Proofs.YteeepenncddnjaaDoorW.PrintLast Go.Proofs.YteeepenncddnjaaDoorW.PrintMore
set_option linter.unusedVariables false
set_option linter.unusedSimpArgs false
/-- Neither a brace nor the end of a line. -/
def Pln (b : UInt8) : Prop := b.toNat ≠ 123 ∧ b.toNat ≠ 10
theorem implFmt' {x : Fm} {s : ByteArray} (h : fmtT x = s) (A3 : Option Addr) (c3 : Nat) (A4 : Option Addr) (c4 : Nat) (w : World) (hin : FmIn w x A3 c3 A4 c4) (ht : x.tot ≤ 1048576) (htab : TabP w) :
    Calls Tryd.prog 12 #[.agg #[.int .i64 x.f0, .string x.f1, .int .i64 x.f2, .slice A3 x.f3.length c3, .slice A4 x.f4.length c4]] w (Ret w (.string s)) := h ▸ implFormat_any x A3 c3 A4 c4 w hin ht htab
end Go.Proofs.YteeepenncddnjaaDoor
end
section
namespace Go.Proofs.YteeepenncddnjaaDoor
open Go.RowKit Go.Proofs.YteeepenncddnjaaDoorW.PrintWords Go.Proofs.YteeepenncddnjaaDoorW.PrintLast Go.Proofs.YteeepenncddnjaaDoorW.PrintMore
set_option linter.unusedVariables false
set_option linter.unusedSimpArgs false
/-- Two texts of letters of one kind, each with a rest that begins otherwise. -/
theorem split_inj {P : UInt8 → Prop} : ∀ {l l' r r' : List UInt8}, (∀ b, b ∈ l → P b) → (∀ b, b ∈ l' → P b) → (∀ c t, r = c :: t → ¬ P c) → (∀ c t, r' = c :: t → ¬ P c) → l ++ r = l' ++ r' → l = l' ∧ r = r'
  | [], [], r, r', _, _, _, _, h => ⟨rfl, h⟩
  | [], b :: l', r, r', _, h2, h3, _, h => absurd (h2 b List.mem_cons_self) (h3 b (l' ++ r') h)
  | a :: l, [], r, r', h1, _, _, h4, h => absurd (h1 a List.mem_cons_self) (h4 a (l ++ r) h.symm)
  | a :: l, b :: l', r, r', h1, h2, h3, h4, h => by
    rw [List.cons_append, List.cons_append, List.cons.injEq] at h
    obtain ⟨rfl, h⟩ := h
    obtain ⟨rfl, rfl⟩ := split_inj (fun b hb => h1 b (List.mem_cons_of_mem _ hb)) (fun b hb => h2 b (List.mem_cons_of_mem _ hb)) h3 h4 h
    exact ⟨rfl, rfl⟩
def Dig (b : UInt8) : Prop := 48 ≤ b.toNat ∧ b.toNat ≤ 57
theorem dec_dig : ∀ (n : Nat) (b : UInt8), b ∈ Lib.decDigits n → Dig b
  | n, b, h => by
    have one : ∀ k : Nat, k < 10 → Dig (UInt8.ofNat (48 + k)) := fun k hk => by
      unfold Dig
      rw [UInt8.toNat_ofNat']
      omega
    rw [Lib.decDigits] at h
    split at h
    · rename_i h1
      obtain rfl := List.mem_singleton.1 h
      exact one n h1
    · rcases List.mem_append.1 h with h | h
      · exact dec_dig (n / 10) b h
      · obtain rfl := List.mem_singleton.1 h
        exact one (n % 10) (by omega)
termination_by n => n
decreasing_by omega
def dval (l : List UInt8) : Nat := l.foldl (fun v b => 10 * v + (b.toNat - 48)) 0
theorem dval_dec (n : Nat) : dval (Lib.decDigits n) = n := by
  induction n using Nat.strongRecOn with
  | _ n ih =>
    have one : ∀ k : Nat, k < 10 → (UInt8.ofNat (48 + k)).toNat - 48 = k := fun k hk => by
      rw [UInt8.toNat_ofNat']
      omega
    by_cases h : n < 10
    · rw [Lib.decDigits, dif_pos h]
      simp only [dval, List.foldl_cons, List.foldl_nil]
      rw [one n h]
      omega
    · have ih2 := ih (n / 10) (by omega)
      rw [Lib.decDigits, dif_neg h]
      unfold dval at ih2 ⊢
      rw [List.foldl_append, ih2]
      simp only [List.foldl_cons, List.foldl_nil]
      rw [one (n % 10) (by omega)]
      omega
theorem itoa_dig {n : Int} (h0 : 0 ≤ n) {b : UInt8} (h : b ∈ Lib.itoa n) : Dig b := by rw [itoa_pos n h0] at h; exact dec_dig _ b h
theorem itoa_inj {a b : Int} (ha : 0 ≤ a) (hb : 0 ≤ b) (h : Lib.itoa a = Lib.itoa b) : a = b := by
  rw [itoa_pos a ha, itoa_pos b hb] at h
  have := congrArg dval h
  rw [dval_dec, dval_dec] at this
  omega
/-- What a name's letters are not. -/
def Nch (b : UInt8) : Prop := b.toNat ≠ 123 ∧ b.toNat ≠ 32 ∧ b.toNat ≠ 41
theorem name_nch {s : ByteArray} (h : NmOk s) {b : UInt8} (hb : b ∈ s.data.toList) : Nch b := by
  rcases h with h | h | ⟨_, _, h⟩
  · rw [ByteArray.toList_eq] at h
    rw [h] at hb
    simp at hb
    subst hb
    exact ⟨by decide, by decide, by decide⟩
  · rw [ByteArray.toList_eq] at h
    rw [h] at hb
    simp at hb
    subst hb
    exact ⟨by decide, by decide, by decide⟩
  · obtain ⟨i, hi, rfl⟩ := List.getElem_of_mem hb
    have hi2 : i < s.size := by rw [Array.length_toList] at hi; exact hi
    have h1 := h i hi2
    have e : s[i] = s.data.toList[i] := rfl
    rw [e] at h1
    generalize s.data.toList[i] = c at h1
    refine ⟨fun hc => ?_, fun hc => ?_, fun hc => ?_⟩
    · rw [hc] at h1; simp [letterB, digitB] at h1
    · rw [hc] at h1; simp [letterB, digitB] at h1
    · rw [hc] at h1; simp [letterB, digitB] at h1
/-- A name's first letter. -/
theorem name_hd {s : ByteArray} (h : NmOk s) : ∃ c t, s.data.toList = c :: t ∧ ¬ Dig c ∧ c.toNat ≠ 40 ∧ c.toNat ≠ 41 := by
  rcases h with h | h | ⟨h1, _, h⟩
  · rw [ByteArray.toList_eq] at h
    exact ⟨46, [46, 46], h, by unfold Dig; decide, by decide, by decide⟩
  · rw [ByteArray.toList_eq] at h
    exact ⟨95, [], h, by unfold Dig; decide, by decide, by decide⟩
  · have h2 := h 0 h1
    have hl : 0 < s.data.toList.length := by rw [Array.length_toList]; exact h1
    have e : s[0] = s.data.toList[0] := rfl
    rw [e] at h2
    cases hs : s.data.toList with
    | nil => rw [hs] at hl; cases hl
    | cons c t =>
      have ec : s.data.toList[0] = c := by simp [hs]
      rw [ec] at h2
      have hlt := c.toNat_lt
      refine ⟨c, t, rfl, fun hd => ?_, fun hc => ?_, fun hc => ?_⟩
      · unfold Dig at hd
        simp [letterB, digitB] at h2
        omega
      · rw [hc] at h2; simp [letterB, digitB] at h2
      · rw [hc] at h2; simp [letterB, digitB] at h2
/-- What may follow a form. -/
def Bnd (r : List UInt8) : Prop := ∀ c t, r = c :: t → c.toNat = 32 ∨ c.toNat = 41
theorem Bnd.dig {r : List UInt8} (h : Bnd r) : ∀ c t, r = c :: t → ¬ Dig c := fun c t e hd => by
  unfold Dig at hd
  rcases h c t e with h | h <;> omega
theorem tail_bnd (r : List UInt8) (ts : List (List UInt8)) : Bnd (Lib.joinTail [32] ts ++ 41 :: r) := by
  intro c t e
  cases ts with
  | nil =>
    simp [Lib.joinTail] at e
    right; rw [← e.1]; rfl
  | cons a b =>
    simp [Lib.joinTail] at e
    left; rw [← e.1]; rfl
/-! scopes -/
theorem sct_inj : ∀ {xs ys : List Int} {r r' : List UInt8}, (∀ a, a ∈ xs → 0 ≤ a) → (∀ a, a ∈ ys → 0 ≤ a) → Lib.joinTail [44] (digs xs) ++ 125 :: r = Lib.joinTail [44] (digs ys) ++ 125 :: r' → xs = ys ∧ r = r'
  | [], [], r, r', _, _, h => by
    simp [Lib.joinTail, digs] at h
    exact ⟨rfl, h⟩
  | [], y :: ys, r, r', _, _, h => by simp [Lib.joinTail, digs] at h
  | x :: xs, [], r, r', _, _, h => by simp [Lib.joinTail, digs] at h
  | x :: xs, y :: ys, r, r', h1, h2, h => by
    have hx := h1 x List.mem_cons_self
    have hy := h2 y List.mem_cons_self
    have e : ∀ (z : Int) (zs : List Int) (q : List UInt8), Lib.joinTail [44] (digs (z :: zs)) ++ 125 :: q = 44 :: (Lib.itoa z ++ (Lib.joinTail [44] (digs zs) ++ 125 :: q)) := by
      intro z zs q
      simp [Lib.joinTail, digs, List.append_assoc]
    have nd : ∀ (zs : List Int) (q : List UInt8), ∀ c t, Lib.joinTail [44] (digs zs) ++ 125 :: q = c :: t → ¬ Dig c := by
      intro zs q c t e hd
      cases zs with
      | nil => simp [Lib.joinTail, digs] at e; rw [← e.1] at hd; revert hd; unfold Dig; decide
      | cons a b => simp [Lib.joinTail, digs] at e; rw [← e.1] at hd; revert hd; unfold Dig; decide
    rw [e, e, List.cons.injEq] at h
    obtain ⟨hi, ht⟩ := split_inj (fun b hb => itoa_dig hx hb) (fun b hb => itoa_dig hy hb) (nd xs r) (nd ys r') h.2
    obtain ⟨rfl, rfl⟩ := sct_inj (fun a ha => h1 a (List.mem_cons_of_mem _ ha)) (fun a ha => h2 a (List.mem_cons_of_mem _ ha)) ht
    exact ⟨by rw [itoa_inj hx hy hi], rfl⟩
theorem sc_pos {sc : List Int} (h : ScOk sc) : ∀ a, a ∈ sc → 0 ≤ a := by
  intro a ha
  obtain ⟨i, hi, rfl⟩ := List.getElem_of_mem ha
  have := (h.2 i hi).1
  omega
theorem scTx_inj {xs ys : List Int} {r r' : List UInt8} (h1 : ScOk xs) (h2 : ScOk ys) (hr : Bnd r) (hr' : Bnd r') (h : scTx xs ++ r = scTx ys ++ r') : xs = ys ∧ r = r' := by
  have no : ∀ (zs : List Int) (a : Int) (q q' : List UInt8), Bnd q → q = scTx (a :: zs) ++ q' → False := by
    intro zs a q q' hq e
    rw [scTx, if_neg (by simp)] at e
    rcases hq _ _ e with e | e
    · revert e; decide
    · revert e; decide
  have e : ∀ (z : Int) (zs : List Int) (q : List UInt8), scTx (z :: zs) ++ q = 123 :: (Lib.itoa z ++ (Lib.joinTail [44] (digs zs) ++ 125 :: q)) := by
    intro z zs q
    rw [scTx, if_neg (by simp)]
    simp only [digs, List.map_cons, Lib.join_cons]
    simp [List.append_assoc]
  cases xs with
  | nil =>
    cases ys with
    | nil => simp [scTx] at h; exact ⟨rfl, h⟩
    | cons y ys => exact (no ys y r r' hr (by simpa [scTx] using h)).elim
  | cons x xs =>
    cases ys with
    | nil => exact (no xs x r' r hr' (by simpa [scTx] using h.symm)).elim
    | cons y ys =>
      have hx := sc_pos h1
      have hy := sc_pos h2
      have nd : ∀ (zs : List Int) (q : List UInt8), ∀ c t, Lib.joinTail [44] (digs zs) ++ 125 :: q = c :: t → ¬ Dig c := by
        intro zs q c t e hd
        cases zs with
        | nil => simp [Lib.joinTail, digs] at e; rw [← e.1] at hd; revert hd; unfold Dig; decide
        | cons a b => simp [Lib.joinTail, digs] at e; rw [← e.1] at hd; revert hd; unfold Dig; decide
      rw [e, e] at h
      have h' : Lib.itoa x ++ (Lib.joinTail [44] (digs xs) ++ 125 :: r) = Lib.itoa y ++ (Lib.joinTail [44] (digs ys) ++ 125 :: r') := by simpa using h
      obtain ⟨hi, ht⟩ := split_inj (fun b hb => itoa_dig (hx x List.mem_cons_self) hb) (fun b hb => itoa_dig (hy y List.mem_cons_self) hb) (nd xs r) (nd ys r') h'
      obtain ⟨rfl, rfl⟩ := sct_inj (fun a ha => hx a (List.mem_cons_of_mem _ ha)) (fun a ha => hy a (List.mem_cons_of_mem _ ha)) ht
      exact ⟨by rw [itoa_inj (hx x List.mem_cons_self) (hy y List.mem_cons_self) hi], rfl⟩
theorem nameT_inj {s s' : ByteArray} {xs ys : List Int} {r r' : List UInt8} (a1 : NmOk s) (a2 : NmOk s') (h1 : ScOk xs) (h2 : ScOk ys) (hr : Bnd r) (hr' : Bnd r') (h : nameT s xs ++ r = nameT s' ys ++ r') : s = s' ∧ xs = ys ∧ r = r' := by
  have nn : ∀ (zs : List Int) (q : List UInt8), Bnd q → ∀ c t, scTx zs ++ q = c :: t → ¬ Nch c := by
    intro zs q hq c t e hn
    cases zs with
    | nil =>
      rcases hq c t (by simpa [scTx] using e) with h | h
      · exact hn.2.1 h
      · exact hn.2.2 h
    | cons a b =>
      rw [scTx, if_neg (by simp)] at e
      simp at e
      exact hn.1 (by rw [← e.1]; rfl)
  unfold nameT at h
  rw [List.append_assoc, List.append_assoc] at h
  obtain ⟨e, ht⟩ := split_inj (fun b hb => name_nch a1 hb) (fun b hb => name_nch a2 hb) (nn xs r hr) (nn ys r' hr') h
  obtain ⟨rfl, rfl⟩ := scTx_inj h1 h2 hr hr' ht
  exact ⟨B8_ext e, rfl, rfl⟩
/-! forms -/
theorem txt_hd {n : Nat} {x : Fm} (h : IsOk n x) : ∃ c t, x.txt = c :: t ∧ c.toNat ≠ 41 ∧ ((x.f0 = 2 ∧ Dig c) ∨ (x.f0 = 1 ∧ ¬ Dig c ∧ c.toNat ≠ 40) ∨ (x.f0 = 3 ∧ c.toNat = 40)) := by
  cases n with
  | zero => exact absurd h (fun h => h)
  | succ n =>
    by_cases h1 : x.f0 = 2
    · have hne : Lib.itoa x.f2 ≠ [] := by rw [itoa_pos _ ((isOk2 h1).1 h).2.1]; exact decDigits_ne _
      cases ht : Lib.itoa x.f2 with
      | nil => exact absurd ht hne
      | cons c t =>
        have hd := itoa_dig ((isOk2 h1).1 h).2.1 (show c ∈ Lib.itoa x.f2 by rw [ht]; exact List.mem_cons_self)
        exact ⟨c, t, by rw [Fm.txt_eq, if_pos h1, ht], by unfold Dig at hd; omega, .inl ⟨h1, hd⟩⟩
    · by_cases h2 : x.f0 = 1
      · obtain ⟨c, t, e, a1, a2, a3⟩ := name_hd ((isOk1 h2).1 h).1
        exact ⟨c, t ++ scTx x.f3, by rw [Fm.txt_eq, if_neg h1, if_pos h2, nameT, e]; rfl, a3, .inr (.inl ⟨h2, a1, a2⟩)⟩
      · exact ⟨40, _, by rw [Fm.txt_eq, if_neg h1, if_neg h2], by decide, .inr (.inr ⟨((isOk3 h2 h1).1 h).1, by decide⟩)⟩
theorem fm_ext {x y : Fm} (h0 : x.f0 = y.f0) (h1 : x.f1 = y.f1) (h2 : x.f2 = y.f2) (h3 : x.f3 = y.f3) (h4 : x.f4 = y.f4) : x = y := by
  cases x; cases y; simp only at h0 h1 h2 h3 h4; subst h0 h1 h2 h3 h4; rfl
theorem bytes_nil {s t : ByteArray} (h1 : s.toList = []) (h2 : t.toList = []) : s = t := by
  rw [ByteArray.toList_eq] at h1 h2
  exact B8_ext (h1.trans h2.symm)
theorem txt_inj : ∀ (n m : Nat) (x y : Fm) (r r' : List UInt8), IsOk n x → IsOk m y → Bnd r → Bnd r' → x.txt ++ r = y.txt ++ r' → x = y ∧ r = r'
  | 0, _, x, _, _, _, h, _, _, _, _ => absurd h (fun h => h)
  | _, 0, _, y, _, _, _, h, _, _, _ => absurd h (fun h => h)
  | n + 1, m + 1, x, y, r, r', hx, hy, hr, hr', h => by
    obtain ⟨c, t, ex, _, cx⟩ := txt_hd hx
    obtain ⟨c', t', ey, _, cy⟩ := txt_hd hy
    have hc : c = c' := by rw [ex, ey] at h; exact (List.cons.injEq .. ▸ h : c = c' ∧ _).1
    subst hc
    by_cases k2 : x.f0 = 2
    · have j2 : y.f0 = 2 := by
        rcases cx with ⟨_, hd⟩ | ⟨k, _⟩ | ⟨k, _⟩
        · rcases cy with ⟨k, _⟩ | ⟨_, k, _⟩ | ⟨_, k⟩
          · exact k
          · exact absurd hd k
          · unfold Dig at hd; omega
        · omega
        · omega
      have qx := (isOk2 k2).1 hx
      have qy := (isOk2 j2).1 hy
      rw [Fm.txt_eq, if_pos k2, Fm.txt_eq y, if_pos j2] at h
      obtain ⟨hi, ht⟩ := split_inj (fun b hb => itoa_dig qx.2.1 hb) (fun b hb => itoa_dig qy.2.1 hb) hr.dig hr'.dig h
      exact ⟨fm_ext (by omega) (bytes_nil qx.1 qy.1) (itoa_inj qx.2.1 qy.2.1 hi) (by rw [List.eq_nil_of_length_eq_zero qx.2.2.2.1, List.eq_nil_of_length_eq_zero qy.2.2.2.1]) (by rw [List.eq_nil_of_length_eq_zero qx.2.2.2.2, List.eq_nil_of_length_eq_zero qy.2.2.2.2]), ht⟩
    · by_cases k1 : x.f0 = 1
      · have j1 : y.f0 = 1 := by
          rcases cx with ⟨k, _⟩ | ⟨_, hd, h40⟩ | ⟨k, _⟩
          · omega
          · rcases cy with ⟨_, k⟩ | ⟨k, _⟩ | ⟨_, k⟩
            · exact absurd k hd
            · exact k
            · exact absurd k h40
          · omega
        have qx := (isOk1 k1).1 hx
        have qy := (isOk1 j1).1 hy
        rw [Fm.txt_eq, if_neg k2, if_pos k1, Fm.txt_eq y, if_neg (by omega), if_pos j1] at h
        obtain ⟨e1, e3, ht⟩ := nameT_inj qx.1 qy.1 qx.2.2.1 qy.2.2.1 hr hr' h
        exact ⟨fm_ext (by omega) e1 (by rw [qx.2.1, qy.2.1]) e3 (by rw [List.eq_nil_of_length_eq_zero qx.2.2.2, List.eq_nil_of_length_eq_zero qy.2.2.2]), ht⟩
      · have j3 : y.f0 ≠ 1 ∧ y.f0 ≠ 2 := by
          rcases cx with ⟨k, _⟩ | ⟨k, _⟩ | ⟨_, hd⟩
          · exact absurd k k2
          · exact absurd k k1
          · rcases cy with ⟨_, k⟩ | ⟨_, _, k⟩ | ⟨k, _⟩
            · unfold Dig at k; omega
            · exact absurd hd k
            · omega
        have qx := (isOk3 k1 k2).1 hx
        have qy := (isOk3 j3.1 j3.2).1 hy
        rw [Fm.txt_eq, if_neg k2, if_neg k1, Fm.txt_eq y, if_neg j3.2, if_neg j3.1] at h
        have h' : Lib.join (txtL x.f4) [32] ++ 41 :: r = Lib.join (txtL y.f4) [32] ++ 41 :: r' := by simpa using h
        have tails : ∀ (ks ls : List Fm), (∀ k, k ∈ ks → IsOk n k) → (∀ k, k ∈ ls → IsOk m k) → Lib.joinTail [32] (txtL ks) ++ 41 :: r = Lib.joinTail [32] (txtL ls) ++ 41 :: r' → ks = ls ∧ r = r' := by
          intro ks
          induction ks with
          | nil =>
            intro ls _ _ e
            cases ls with
            | nil => simp [Lib.joinTail, txtL] at e; exact ⟨rfl, e⟩
            | cons l ls => simp [Lib.joinTail, txtL] at e
          | cons k ks ihk =>
            intro ls hk hl e
            cases ls with
            | nil => simp [Lib.joinTail, txtL] at e
            | cons l ls =>
              have e2 : k.txt ++ (Lib.joinTail [32] (txtL ks) ++ 41 :: r) = l.txt ++ (Lib.joinTail [32] (txtL ls) ++ 41 :: r') := by simpa [Lib.joinTail, txtL] using e
              obtain ⟨rfl, e3⟩ := txt_inj n m k l _ _ (hk k List.mem_cons_self) (hl l List.mem_cons_self) (tail_bnd r _) (tail_bnd r' _) e2
              obtain ⟨rfl, rfl⟩ := ihk ls (fun a ha => hk a (List.mem_cons_of_mem _ ha)) (fun a ha => hl a (List.mem_cons_of_mem _ ha)) e3
              exact ⟨rfl, rfl⟩
        have all : x.f4 = y.f4 ∧ r = r' := by
          have hkx := qx.2.2.2.2
          have hky := qy.2.2.2.2
          generalize x.f4 = ks at h' hkx
          generalize y.f4 = ls at h' hky
          have hd : ∀ (a : Nat) (k : Fm) (q q' : List UInt8), IsOk a k → k.txt ++ q ≠ 41 :: q' := by
            intro a k q q' hk e
            obtain ⟨c, t, ec, hc, _⟩ := txt_hd hk
            rw [ec] at e
            have := (List.cons.injEq .. ▸ e : c = 41 ∧ _).1
            exact hc (by rw [this]; rfl)
          cases ks with
          | nil =>
            cases ls with
            | nil => simp [txtL, Lib.join_nil] at h'; exact ⟨rfl, h'⟩
            | cons l ls =>
              simp only [txtL, Lib.join_cons, Lib.join_nil, List.nil_append, List.append_assoc] at h'
              exact absurd h'.symm (hd m l _ _ (hky l List.mem_cons_self))
          | cons k ks =>
            cases ls with
            | nil =>
              simp only [txtL, Lib.join_cons, Lib.join_nil, List.nil_append, List.append_assoc] at h'
              exact absurd h' (hd n k _ _ (hkx k List.mem_cons_self))
            | cons l ls =>
              simp only [txtL, Lib.join_cons, List.append_assoc] at h'
              obtain ⟨rfl, e3⟩ := txt_inj n m k l _ _ (hkx k List.mem_cons_self) (hky l List.mem_cons_self) (tail_bnd r _) (tail_bnd r' _) h'
              obtain ⟨rfl, rfl⟩ := tails ks ls (fun a ha => hkx a (List.mem_cons_of_mem _ ha)) (fun a ha => hky a (List.mem_cons_of_mem _ ha)) e3
              exact ⟨rfl, rfl⟩
        exact ⟨fm_ext (by rw [qx.1, qy.1]) (bytes_nil qx.2.1 qy.2.1) (by rw [qx.2.2.1, qy.2.2.1]) (by rw [List.eq_nil_of_length_eq_zero qx.2.2.2.1, List.eq_nil_of_length_eq_zero qy.2.2.2.1]) all.1, all.2⟩
theorem fmt_inj {x y : Fm} (hx : FmOk x) (hy : FmOk y) : (fmtT x).toList = (fmtT y).toList ↔ x = y := by
  refine ⟨fun h => ?_, fun h => by rw [h]⟩
  rw [fmtT, if_pos (pB_iff.2 hx), fmtT, if_pos (pB_iff.2 hy), ByteArray.toList_eq, ByteArray.toList_eq] at h
  have h' : x.txt ++ [] = y.txt ++ [] := by rw [List.append_nil, List.append_nil]; exact h
  exact (txt_inj 40 40 x y [] [] hx.1 hy.1 (fun c t e => by cases e) (fun c t e => by cases e) h').1
end Go.Proofs.YteeepenncddnjaaDoor
end
section
namespace Go.Proofs.YteeepenncddnjaaDoor
open Go.RowKit Go.Proofs.YteeepenncddnjaaDoorW.PrintWords Go.Proofs.YteeepenncddnjaaDoorW.PrintLast Go.Proofs.YteeepenncddnjaaDoorW.PrintMore
set_option linter.unusedVariables false
set_option linter.unusedSimpArgs false
theorem eqB_comm {α : Type} (x y : α) : eqB x y = eqB y x := by
  rw [Bool.eq_iff_iff, eqB_iff, eqB_iff]
  exact eq_comm
theorem sameI {x y : Fm} {t : Bool} (h : eqB x y = t) (A3 : Option Addr) (c3 : Nat) (A4 : Option Addr) (c4 : Nat) (B3 : Option Addr) (d3 : Nat) (B4 : Option Addr) (d4 : Nat) (w : World) (h1 : FmIn w x A3 c3 A4 c4) (h2 : FmIn w y B3 d3 B4 d4) :
    Calls Tryd.prog 9 #[.agg #[.int .i64 x.f0, .string x.f1, .int .i64 x.f2, .slice A3 x.f3.length c3, .slice A4 x.f4.length c4], .agg #[.int .i64 y.f0, .string y.f1, .int .i64 y.f2, .slice B3 y.f3.length d3, .slice B4 y.f4.length d4]] w (Ret w (.bool t)) :=
  h ▸ implSame_any x y A3 c3 A4 c4 B3 d3 B4 d4 w h1 h2
theorem sameS {x y : Fm} {t : Bool} (h : eqB x y = t) (A3 : Option Addr) (c3 : Nat) (A4 : Option Addr) (c4 : Nat) (B3 : Option Addr) (d3 : Nat) (B4 : Option Addr) (d4 : Nat) (w : World) (h1 : FmIn w x A3 c3 A4 c4) (h2 : FmIn w y B3 d3 B4 d4) :
    Calls Tryd.prog 10 #[.agg #[.int .i64 x.f0, .string x.f1, .int .i64 x.f2, .slice A3 x.f3.length c3, .slice A4 x.f4.length c4], .agg #[.int .i64 y.f0, .string y.f1, .int .i64 y.f2, .slice B3 y.f3.length d3, .slice B4 y.f4.length d4]] w (Ret w (.bool t)) :=
  h ▸ specSame_any x y A3 c3 A4 c4 B3 d3 B4 d4 w h1 h2
theorem fmt_eq {x y : Fm} {s u : ByteArray} (hx : FmOk x) (hy : FmOk y) (hs : fmtT x = s) (hu : fmtT y = u) : (s.toList == u.toList) = eqB x y := by
  subst hs hu
  rw [Bool.eq_iff_iff, eqB_iff, beq_iff_eq]
  exact fmt_inj hx hy
end Go.Proofs.YteeepenncddnjaaDoor
end
section
-- PRINTED WORDS (module Derived/Print/Sized.lean): go-gate-2's, for the rows of laws over slices: an AI agent of Go's test side, Tue Nov 17 2026; no person has read it. Lean checks it.
namespace Go.Proofs.YteeepenncddnjaaDoorW.PrintWords
open Go.ChangeShapes Go.WideShapes
/-- A row's slice of whole numbers is no longer than its weight allows. -/
theorem sized_ints {H : Type} {enc : TypeId × Value → H} {P : Program} {W : World} {base : Nat} {spare : Nat → Bool} {held : Bool} {t e : TypeId} {k : IntKind} {a : Option Addr} {len cap : Nat} {d : DataW H} {ps : List MemPlace} {ts : List TypeId} {ds : List (DataW H)} {j : Nat}
    (hsz : (DataW.weightsEach P ts ds).all (· ≤ reachBytes) = true) (ht : ts[j]? = some t) (hd : ds[j]? = some d) (hu : P.underlying t = some (.slice e)) (he : P.underlying e = some (.int k)) (hc : P.cellsOf e = 1) {B : Nat} (hB : P.bytesOf e = B)
    (h : DataW.Trod enc P W base spare held t (.slice a len cap) d ps) : len * B ≤ 140737488351232 := by
  obtain ⟨fuel, hf⟩ := h
  rcases open_ints hu he hc hf with ⟨hcs, _⟩ | ⟨x, l, c, zs, hcs, _, hl, _, hz, hx, _, _⟩
  · simp [Value.cells] at hcs
    obtain ⟨rfl, rfl, rfl⟩ := hcs
    simp
  · simp [Value.cells] at hcs
    obtain ⟨rfl, rfl, rfl⟩ := hcs
    obtain ⟨hx, _⟩ := Prod.mk.inj hx
    subst hx
    have z := sized_slice hsz ht hd hu
    rw [hB] at z
    have hl2 : len ≤ zs.length := by
      rw [hz]
      split
      · exact hl
      · exact Nat.le_refl _
    have h1 : (lits (H := H) k (zs.take len)).length + (lits (H := H) k (zs.drop len)).length = zs.length := by
      simp [lits]
      omega
    rw [h1] at z
    exact Nat.le_trans (Nat.mul_le_mul_right _ hl2) z
end Go.Proofs.YteeepenncddnjaaDoorW.PrintWords
end
