/- Words for the laws' proofs (part 3): contracts of functions, and plain lemmas. -/
import Derived.ChangeSlices
import Derived.Laws.BitsLemmas
import Derived.SizedLaws
import Derived.Test.YteeepenncddnjaaDoorKb1
import Derived.Test.YteeepenncddnjaaDoorKb2
section
namespace Go.Proofs.YteeepenncddnjaaDoor.Q
open Go.RowKit Go.Proofs.YteeepenncddnjaaDoorW.PrintWords Go.Proofs.YteeepenncddnjaaDoorW.PrintLast Go.Proofs.YteeepenncddnjaaDoorW.PrintMore
attribute [local go_sem] max2_int min2_int max_two min_two max_three min_three max_four min_four   -- for this text's walks alone
set_option linter.unusedVariables false
set_option linter.unusedSimpArgs false

/-- A state of type 78 at block g of W; what its slices lead to came in by w0. -/
def IsS78 (w0 W : World) (g : Nat) (f0 : List Int) (f1 : Int) : Prop := ∃ A0 c0, W.heap[g]? = some (.cells #[.slice A0 f0.length c0, .int .i64 f1] 78 (0, 0)) ∧ w0.heap.size ≤ g ∧ Kd.C (Kd.int .u8) w0 A0 f0.length f0
theorem IsS78.grown {w0 W : World} {g : Nat} {f0 : List Int} {f1 : Int} {W1 : World} {row : Option Nat} (h : IsS78 w0 W g f0 f1) (hw : W.grownBy W1 row) (hne : some g ≠ row) : IsS78 w0 W1 g f0 f1 := by
  obtain ⟨A0, c0, hb, hg, hr0⟩ := h
  exact ⟨A0, c0, blk_grown hb hw hne, hg, hr0⟩
theorem IsS78.fresh {w0 W : World} {g : Nat} {f0 : List Int} {f1 : Int} (h : IsS78 w0 W g f0 f1) : ∀ k, W.heap.size ≤ k → k ≠ g := by
  obtain ⟨A0, c0, hb, hg, hr0⟩ := h
  exact Kd.freshB hb
theorem IsS78.kept {w0 W : World} {g : Nat} {f0 : List Int} {f1 : Int} {W1 : World} {S : Nat → Prop} (h : IsS78 w0 W g f0 f1) (hk : Kept W W1 S) (hne : ¬ S g) : IsS78 w0 W1 g f0 f1 := by
  obtain ⟨A0, c0, hb, hg, hr0⟩ := h
  exact ⟨A0, c0, blk_kept hb hk hne, hg, hr0⟩
theorem IsS78.below {w0 W : World} {g : Nat} {f0 : List Int} {f1 : Int} {W1 : World} (h : IsS78 w0 W g f0 f1) (hw : Below W.heap.size W W1) : IsS78 w0 W1 g f0 f1 := h.grown (grown_of_below hw none) (by simp)
theorem IsS78.alloc {w0 W : World} {g : Nat} {f0 : List Int} {f1 : Int} (h : IsS78 w0 W g f0 f1) (o : Obj) : IsS78 w0 (W.alloc o) g f0 f1 := h.below (below_alloc (Below.refl _ _) o)
theorem IsS78.drewN {w0 W : World} {g : Nat} {f0 : List Int} {f1 : Int} (h : IsS78 w0 W g f0 f1) (m : Nat) : IsS78 w0 (W.drewN m) g f0 f1 := h
theorem IsS78.drew {w0 W : World} {g : Nat} {f0 : List Int} {f1 : Int} (h : IsS78 w0 W g f0 f1) : IsS78 w0 W.drew g f0 f1 := h
theorem IsS78.at_ {w0 W : World} {g : Nat} {f0 : List Int} {f1 : Int} {w' : World} {m : Nat} (hq : W.drewN m = w') (h : IsS78 w0 W g f0 f1) : IsS78 w0 w' g f0 f1 := by subst hq; exact IsS78.drewN h m
theorem IsS78.apart {w0 W : World} {g : Nat} {f0 : List Int} {f1 : Int} {α : Type} {d : Kd α} {e : Nat} {base : Nat} {ok : Nat → Prop} {v : Value} {xs : List α} (h : IsS78 w0 W g f0 f1) (ho : d.R e W base ok v xs) (ht : ∀ q, q ∈ e :: d.E → q ≠ 78) : d.R e W base (fun k => ok k ∧ k ≠ g) v xs := by
  obtain ⟨A0, c0, hb, hg, hr0⟩ := h
  exact Kd.R_types ho hb ht
theorem IsS78.own_ne {w0 W : World} {g : Nat} {f0 : List Int} {f1 : Int} {α : Type} {d : Kd α} {e : Nat} {base : Nat} {ok : Nat → Prop} {v : Value} {xs : List α} (h : IsS78 w0 W g f0 f1) (ho : d.R e W base ok v xs) (ht : e ≠ 78) : some g ≠ v.ownBlock := by
  obtain ⟨A0, c0, hb, hg, hr0⟩ := h
  exact Kd.R_ne ho hb ht
theorem IsS78.lt {w0 W : World} {g : Nat} {f0 : List Int} {f1 : Int} (h : IsS78 w0 W g f0 f1) : g < W.heap.size := by
  obtain ⟨A0, c0, hb, hg, hr0⟩ := h
  exact blk_lt hb
theorem IsS78.ge {w0 W : World} {g : Nat} {f0 : List Int} {f1 : Int} (h : IsS78 w0 W g f0 f1) : w0.heap.size ≤ g := by
  obtain ⟨A0, c0, hb, hg, hr0⟩ := h
  exact hg
theorem IsS78.ne_blk {w0 W : World} {g : Nat} {f0 : List Int} {f1 : Int} {a : Nat} {cs : Array Value} {t : TypeId} {fr : Nat × Nat} (h : IsS78 w0 W g f0 f1) (hb2 : W.heap[a]? = some (.cells cs t fr)) (ht : t ≠ 78) : g ≠ a := by
  obtain ⟨A0, c0, hb, hg, hr0⟩ := h
  rintro rfl
  rw [hb] at hb2
  injection hb2 with hb2
  injection hb2 with _ ht2
  exact ht ht2.symm
theorem IsS78.far {w0 W : World} {g : Nat} {f0 : List Int} {f1 : Int} {p : Addr} (h : IsS78 w0 W g f0 f1) (hne : g ≠ p.block) (u : Value) : IsS78 w0 (W.setCell p u) g f0 f1 := by
  obtain ⟨A0, c0, hb, hg, hr0⟩ := h
  exact ⟨A0, c0, blk_far hb hne u, hg, hr0⟩
theorem cellS78_0 {W : World} {g : Nat} {A0 : Option Addr} {c0 : Nat} {f0 : List Int} {f1 : Int} (h : W.heap[g]? = some (.cells #[.slice A0 f0.length c0, .int .i64 f1] 78 (0, 0))) : W.cell? ⟨g, 0, none⟩ = some (.slice A0 f0.length c0) := (blk_cell h 0).trans rfl
theorem cellS78_1 {W : World} {g : Nat} {A0 : Option Addr} {c0 : Nat} {f0 : List Int} {f1 : Int} (h : W.heap[g]? = some (.cells #[.slice A0 f0.length c0, .int .i64 f1] 78 (0, 0))) : W.cell? ⟨g, 1, none⟩ = some (.int .i64 f1) := (blk_cell h 1).trans rfl
theorem IsS78.set_1 {w0 W : World} {g : Nat} {f0 : List Int} {f1 : Int} (h : IsS78 w0 W g f0 f1) (x : Int) : IsS78 w0 (W.setCell ⟨g, 1, none⟩ (.int .i64 x)) g f0 x := by
  obtain ⟨A0, c0, hb, hg, hr0⟩ := h
  exact ⟨A0, c0, by simpa using blk_set hb 1 (.int .i64 x), hg, hr0⟩
theorem IsS78.new (w0 W : World) (A0 : Option Addr) (c0 : Nat) (f0 : List Int) (f1 : Int) (hB : Below w0.heap.size w0 W) (hr0 : Kd.C (Kd.int .u8) w0 A0 f0.length f0) : IsS78 w0 (W.alloc (.cells #[.slice A0 f0.length c0, .int .i64 f1] 78)) W.heap.size f0 f1 := ⟨A0, c0, by simpa using heap_alloc_new W _, hB.size, hr0⟩

def spec_l15Open.f (l0 : List Int) : Option (List Int × Int) := if (l0.length : Int) > 2000 then (if 2000 ≤ (l0.length : Int) then (some (l0.take 2000, 0)) else (none)) else (some (l0, 0))
set_option maxHeartbeats 8000000 in
set_option maxRecDepth 100000 in
theorem spec_l15Open.calls (A0 : Option Addr) (c0 : Nat) (l0 : List Int) (r1 : List Int) (r2 : Int) (w0 w : World) (hB : Below w0.heap.size w0 w) (hr0 : Kd.C (Kd.int .u8) w0 A0 l0.length l0) (hc0 : l0.length ≤ c0) (h : spec_l15Open.f l0 = some (r1, r2)) :
    Calls Tryd.prog 28 #[.slice A0 l0.length c0] w fun e w' => ∃ g_ : Nat, e = .returned (.pointer (some ⟨g_, 0, none⟩)) ∧ IsS78 w0 w' g_ r1 r2 ∧ Below w0.heap.size w0 w' ∧ Below w.heap.size w w' := by
  have hu78 := Tryd.underlying78
  have HR0 := Aside0.mk hr0
  have HC0 := Aside0.mk hc0
  clear hr0 hc0
  have HBW := Aside0.mk (Below.refl w.heap.size w)
  have HW0 := Aside0.mk hB.size
  have HB := Aside0.mk hB
  clear hB
  have H : (if (l0.length : Int) > 2000 then (if 2000 ≤ (l0.length : Int) then (some (l0.take 2000, 0)) else (none)) else (some (l0, 0))) = some (r1, r2) := h
  clear h
  by_cases c2 : (l0.length : Int) > 2000
  · rw [if_pos c2] at H
    have c2b0 : decide (2000 < (l0.length : Int)) = true := decide_eq_true c2
    have c2b1 : decide (2000 < l0.length) = true := decide_eq_true (by omega)
    clear c2
    by_cases c3 : 2000 ≤ (l0.length : Int)
    · rw [if_pos c3] at H
      have c3b0 := eq_true c3
      have c3b1 : decide (2000 ≤ (l0.length : Int)) = true := decide_eq_true c3
      clear c3
      simp only [Option.some.injEq, Prod.mk.injEq] at H
      obtain ⟨rfl, rfl⟩ := H
      obtain ⟨i04, hi04, _, hsz4, _⟩ := info_parts info5
      obtain ⟨hcut4, hA4, hC4⟩ := print_take_of (P := Tryd.prog) (Value.int .u8) 0 22 5 .i64 Tryd.underlying22 hi04 hsz4 A0 c0 l0 2000 (by omega) (of_decide_eq_true (by first | (with_reducible assumption) | assumption)) HC0.out
      have HR200 := Aside0.mk (Kd.C_of_reads (h1 := fun _ => rfl) (hA4 _ (Kd.reads_of_C HR0.out)))
      have HC200 := Aside0.mk hC4
      clear hA4 hC4 hi04 hsz4
      go_enter Tryd.func28, Tryd.ntmps28
      go_wp2_with (first | ((with_reducible refine gate_dst (N := 10) rfl ?_); refine box_event ?hg (N := 10) ?hd (cs := #[.slice A0 (l0.take 2000).length c0, .int .i64 0]) (t := 78) ?hr ?_; (case hd => rfl); (case hg => rfl); (case hr => first | (go_simp; done) | (go_simp; rfl)); intro gb201 hg w5 hbox hb; have n0_ := Aside0.mk (below_step HBW.out hb); have n1_ := Aside0.mk (below_step (by repeat (first | (with_reducible first | exact HB.out | apply below_alloc | apply pw_below_drewN | apply below_drew1) | exact HB.out)) hb); have n2_ := Aside0.mk (hbox); have n3_ := Aside0.mk ((by rw [hg]; exact (below_size (by repeat (first | (with_reducible first | exact HBW.out | apply below_alloc | apply pw_below_drewN | apply below_drew1) | exact HBW.out))) : w.heap.size ≤ gb201)); have n4_ := Aside0.mk ((Nat.le_trans HW0.out (by rw [hg]; exact (below_size (by repeat (first | (with_reducible first | exact HBW.out | apply below_alloc | apply pw_below_drewN | apply below_drew1) | exact HBW.out))) : w.heap.size ≤ gb201) : w0.heap.size ≤ gb201)); clear HBW; clear HB; have HBW := n0_; have HB := n1_; have BK201 := n2_; have GW201 := n3_; have GE201 := n4_; clear n0_ n1_ n2_ n3_ n4_; clear hb hbox hg))
      go_ret
      exact ⟨_, rfl, (show IsS78 w0 _ gb201 (l0.take 2000) 0 from ⟨_, _, by (with_reducible repeat (first | refine blk_drewN ?_ _ | refine blk_drew ?_ | refine blk_alloc ?_ _)); exact BK201.out, GE201.out, HR200.out⟩), by repeat (first | (with_reducible first | exact HB.out | apply below_alloc | apply pw_below_drewN | apply below_drew1 | refine below_set ?_ GE201.out) | exact HB.out), by repeat (first | (with_reducible first | exact HBW.out | apply below_alloc | apply pw_below_drewN | apply below_drew1 | refine below_set ?_ GW201.out) | exact HBW.out)⟩
    · rw [if_neg c3] at H
      exact absurd H (by simp)
  · rw [if_neg c2] at H
    have c2b0 : decide (2000 < (l0.length : Int)) = false := decide_eq_false c2
    have c2b1 : decide (2000 < l0.length) = false := decide_eq_false (by omega)
    clear c2
    simp only [Option.some.injEq, Prod.mk.injEq] at H
    obtain ⟨rfl, rfl⟩ := H
    go_enter Tryd.func28, Tryd.ntmps28
    go_wp2_with (first | ((with_reducible refine gate_dst (N := 10) rfl ?_); refine box_event ?hg (N := 10) ?hd (cs := #[.slice A0 l0.length c0, .int .i64 0]) (t := 78) ?hr ?_; (case hd => rfl); (case hg => rfl); (case hr => first | (go_simp; done) | (go_simp; rfl)); intro gb202 hg w6 hbox hb; have n0_ := Aside0.mk (below_step HBW.out hb); have n1_ := Aside0.mk (below_step (by repeat (first | (with_reducible first | exact HB.out | apply below_alloc | apply pw_below_drewN | apply below_drew1) | exact HB.out)) hb); have n2_ := Aside0.mk (hbox); have n3_ := Aside0.mk ((by rw [hg]; exact (below_size (by repeat (first | (with_reducible first | exact HBW.out | apply below_alloc | apply pw_below_drewN | apply below_drew1) | exact HBW.out))) : w.heap.size ≤ gb202)); have n4_ := Aside0.mk ((Nat.le_trans HW0.out (by rw [hg]; exact (below_size (by repeat (first | (with_reducible first | exact HBW.out | apply below_alloc | apply pw_below_drewN | apply below_drew1) | exact HBW.out))) : w.heap.size ≤ gb202) : w0.heap.size ≤ gb202)); clear HBW; clear HB; have HBW := n0_; have HB := n1_; have BK202 := n2_; have GW202 := n3_; have GE202 := n4_; clear n0_ n1_ n2_ n3_ n4_; clear hb hbox hg))
    go_ret
    exact ⟨_, rfl, (show IsS78 w0 _ gb202 l0 0 from ⟨_, _, by (with_reducible repeat (first | refine blk_drewN ?_ _ | refine blk_drew ?_ | refine blk_alloc ?_ _)); exact BK202.out, GE202.out, HR0.out⟩), by repeat (first | (with_reducible first | exact HB.out | apply below_alloc | apply pw_below_drewN | apply below_drew1 | refine below_set ?_ GE202.out) | exact HB.out), by repeat (first | (with_reducible first | exact HBW.out | apply below_alloc | apply pw_below_drewN | apply below_drew1 | refine below_set ?_ GW202.out) | exact HBW.out)⟩

def spec_l15Rd_pick.j0 : Nat → Int → Bool → List Int → Int → Option (Int × Int)
  | 0, _, _, _, _ => none
  | k + 1, x1, x24, x1000, x1001 => if x24 = true then (some (0, x1001)) else (if (wrap64 (x1001 - 1)) < (x1000.length : Int) then (if 0 ≤ (wrap64 (x1001 - 1)) then (if x1 = 0 then (none) else (some (Int.tmod (wrap64 (rd x1000 (wrap64 (x1001 - 1)))) x1, x1001))) else (none)) else (if (x1000.length : Int) = 0 then (none) else (if 0 ≤ (Int.tmod (wrap64 (x1001 - 1)) (x1000.length : Int)) then (if (Int.tmod (wrap64 (x1001 - 1)) (x1000.length : Int)) < (x1000.length : Int) then (if 0 ≤ (Int.tmod (wrap64 ((wrap64 ((wrap64 (x1001 - 1)) * 7)) + 3)) (x1000.length : Int)) then (if (Int.tmod (wrap64 ((wrap64 ((wrap64 (x1001 - 1)) * 7)) + 3)) (x1000.length : Int)) < (x1000.length : Int) then (if x1 = 0 then (none) else (some (Int.tmod (Go.bits .xor .i64 (wrap64 ((wrap64 ((wrap64 ((wrap64 ((wrap64 (rd x1000 (Int.tmod (wrap64 (x1001 - 1)) (x1000.length : Int)))) * 131)) + (wrap64 ((wrap64 (rd x1000 (Int.tmod (wrap64 ((wrap64 ((wrap64 (x1001 - 1)) * 7)) + 3)) (x1000.length : Int)))) * 1117)))) + (wrap64 ((wrap64 (x1001 - 1)) * 29)))) + (wrap64 ((wrap64 (Int.tdiv (wrap64 (x1001 - 1)) (x1000.length : Int))) * 53)))) (wrap64 (Int.tdiv (wrap64 ((wrap64 ((wrap64 ((wrap64 ((wrap64 (rd x1000 (Int.tmod (wrap64 (x1001 - 1)) (x1000.length : Int)))) * 131)) + (wrap64 ((wrap64 (rd x1000 (Int.tmod (wrap64 ((wrap64 ((wrap64 (x1001 - 1)) * 7)) + 3)) (x1000.length : Int)))) * 1117)))) + (wrap64 ((wrap64 (x1001 - 1)) * 29)))) + (wrap64 ((wrap64 (Int.tdiv (wrap64 (x1001 - 1)) (x1000.length : Int))) * 53)))) 64))) x1, x1001))) else (none)) else (none)) else (none)) else (none))))
def spec_l15Rd_pick.f (k : Nat) (s0_0 : List Int) (s0_1 : Int) (a1 : Int) : Option (Int × Int) := if a1 < 1 then (spec_l15Rd_pick.j0 k a1 true s0_0 (wrap64 (s0_1 + 1))) else (spec_l15Rd_pick.j0 k a1 ((s0_0.length : Int) == 0) s0_0 (wrap64 (s0_1 + 1)))
theorem spec_l15Rd_pick.mono_l : ∀ k, (∀ y0 y1 y2 y3, LeO (spec_l15Rd_pick.j0 k y0 y1 y2 y3) (spec_l15Rd_pick.j0 (k + 1) y0 y1 y2 y3))
  | 0 => fun _ _ _ _ r h => by simp [spec_l15Rd_pick.j0] at h
  | k + 1 => by
    have ih0 := spec_l15Rd_pick.mono_l k
    · intro y0 y1 y2 y3
      unfold spec_l15Rd_pick.j0
      repeat' first
      | (with_reducible exact ih0 _ _ _ _)
      | (with_reducible exact LeO.refl _)
      | (with_reducible exact LeO.none _)
      | (with_reducible refine LeO.ite ?_ ?_)
      | (with_reducible refine LeO.bind ?_ (fun _ => ?_))
      | exact ih0 _ _ _ _
      | exact LeO.none _
      | refine LeO.ite ?_ ?_
      | refine LeO.bind ?_ (fun _ => ?_)
theorem spec_l15Rd_pick.mono : ∀ a0 a1 a2 k, LeO (spec_l15Rd_pick.f k a0 a1 a2) (spec_l15Rd_pick.f (k + 1) a0 a1 a2) := by
  intro a0 a1 a2 k
  have ih0 := spec_l15Rd_pick.mono_l k
  unfold spec_l15Rd_pick.f
  repeat' first
      | (with_reducible exact ih0 _ _ _ _)
      | (with_reducible exact LeO.refl _)
      | (with_reducible exact LeO.none _)
      | (with_reducible refine LeO.ite ?_ ?_)
      | (with_reducible refine LeO.bind ?_ (fun _ => ?_))
      | exact ih0 _ _ _ _
      | exact LeO.none _
      | refine LeO.ite ?_ ?_
      | refine LeO.bind ?_ (fun _ => ?_)
set_option maxHeartbeats 8000000 in
set_option maxRecDepth 100000 in
theorem spec_l15Rd_pick.calls (k : Nat) (g : Nat) (s0_0 : List Int) (s0_1 : Int) (a1 : Int) (r1 : Int) (r2 : Int) (w0 w : World) (hI : IsS78 w0 w g s0_0 s0_1) (hB : Below w0.heap.size w0 w) (h : spec_l15Rd_pick.f k s0_0 s0_1 a1 = some (r1, r2)) :
    Calls Tryd.prog 31 #[.pointer (some ⟨g, 0, none⟩), .int .i64 a1] w fun e w' => e = .returned (.int .i64 r1) ∧ IsS78 w0 w' g s0_0 r2 ∧ Below w0.heap.size w0 w' ∧ KeepBut w w' g none := by
  have HI0 := Aside0.mk hI
  have HK := Aside0.mk (KeepBut.refl w g none)
  have HL := Aside0.mk hB.size
  clear hI
  have HW0 := Aside0.mk hB.size
  have HB := Aside0.mk hB
  clear hB
  have H : (if a1 < 1 then (spec_l15Rd_pick.j0 k a1 true s0_0 (wrap64 (s0_1 + 1))) else (spec_l15Rd_pick.j0 k a1 ((s0_0.length : Int) == 0) s0_0 (wrap64 (s0_1 + 1)))) = some (r1, r2) := h
  clear h
  have HC3 := Aside0.mk H
  clear H
  obtain ⟨ASz4_0, cSz4_0, HGz4, hgz4, HSz4_0⟩ := HI0.out
  have hcz4_0 := cellS78_0 HGz4
  have hcz4_1 := cellS78_1 HGz4
  have hfz4_1 := blk_frozen HGz4 1
  clear HGz4 hgz4
  go_enter Tryd.func31, Tryd.ntmps31
  go_upto_region 2 with (fail)
  repeat (go_quiet (fail); go_upto_region 2 with (fail))
  go_cut [24] (fun v24 wc => ∃ (kq : Nat) (x24_2 : Bool), v24 = .bool x24_2 ∧ Aside0 (spec_l15Rd_pick.j0 kq a1 x24_2 s0_0 (wrap64 (s0_1 + 1)) = some (r1, r2)) ∧ Aside0 (kq ≤ k) ∧ Aside0 (IsS78 w0 wc g s0_0 (wrap64 (s0_1 + 1))) ∧ Aside0 (KeepBut w wc g none) ∧ Aside0 (Below w0.heap.size w0 wc))
  case first =>
    have H := HC3.out
    clear HC3
    by_cases c5 : a1 < 1
    · rw [if_pos c5] at H
      have c5b0 : decide (a1 < 1) = true := decide_eq_true c5
      clear c5
      (first | rw [c5b0] | (simp only [i64_w, i32_w]; rw [c5b0]) | skip)
      have H' := Aside0.mk H
      clear H
      go_wp2
      repeat (go_quiet (fail); try go_wp2)
      go_meet
      case rel => exact ⟨_, (true), (by first | rfl | (simp; done) | (simp [*]; done)), H', ⟨by first | omega | exact Nat.le_refl _⟩, ⟨by repeat (first | (with_reducible first | exact HI0.out | apply IsS78.alloc | apply IsS78.drewN | apply IsS78.drew | apply IsS78.set_1) | exact HI0.out)⟩, ⟨by repeat (first | (with_reducible first | exact HK.out | apply KeepBut.set_ | apply keep_drewN | apply keep_drew | apply keep_alloc) | exact HK.out)⟩, ⟨by repeat (first | (with_reducible first | exact HB.out | apply below_alloc | apply pw_below_drewN | apply below_drew1 | refine below_set ?_ (IsS78.ge HI0.out)) | exact HB.out)⟩⟩
    · rw [if_neg c5] at H
      have c5b0 : decide (a1 < 1) = false := decide_eq_false c5
      clear c5
      (first | rw [c5b0] | (simp only [i64_w, i32_w]; rw [c5b0]) | skip)
      have H' := Aside0.mk H
      clear H
      obtain ⟨ASz6_0, cSz6_0, HGz6, hgz6, HSz6_0⟩ := HI0.out
      have hcz6_0 := cellS78_0 HGz6
      have hcz6_1 := cellS78_1 HGz6
      have hfz6_1 := blk_frozen HGz6 1
      clear HGz6 hgz6
      go_wp2
      repeat (go_quiet (fail); try go_wp2)
      go_meet
      case rel => exact ⟨_, (((s0_0.length : Int) == 0)), (by first | rfl | (simp; done) | (simp [*]; done)), H', ⟨by first | omega | exact Nat.le_refl _⟩, ⟨by repeat (first | (with_reducible first | exact HI0.out | apply IsS78.alloc | apply IsS78.drewN | apply IsS78.drew | apply IsS78.set_1) | exact HI0.out)⟩, ⟨by repeat (first | (with_reducible first | exact HK.out | apply KeepBut.set_ | apply keep_drewN | apply keep_drew | apply keep_alloc) | exact HK.out)⟩, ⟨by repeat (first | (with_reducible first | exact HB.out | apply below_alloc | apply pw_below_drewN | apply below_drew1 | refine below_set ?_ (IsS78.ge HI0.out)) | exact HB.out)⟩⟩
  case rest =>
    clear HC3
    try clear p2
    try clear c3
    try clear c5
    try clear c5b0
    try clear p6
    try clear hcz4_0
    try clear hcz4_1
    try clear hcz6_0
    try clear hcz6_1
    try clear hfz4_1
    try clear hfz6_1
    obtain ⟨kq, x24_2, rfl, HA, HJ2, HI0, HK, HB⟩ := hcut
    cases kq with
    | zero => exact absurd HA.out (by simp [spec_l15Rd_pick.j0])
    | succ kj2 =>
      have H := HA.out
      clear HA
      simp only [spec_l15Rd_pick.j0] at H
      by_cases c7 : x24_2 = true
      · subst c7
        have H1 : (some (0, (wrap64 (s0_1 + 1)))) = some (r1, r2) := by rw [if_pos rfl] at H; exact H
        clear H
        have H := H1
        clear H1
        simp only [Option.some.injEq, Prod.mk.injEq] at H
        obtain ⟨rfl, rfl⟩ := H
        go_wp2
        repeat (go_quiet (fail); try go_wp2)
        go_ret
        exact ⟨by first | rfl | (simp [errW_none, errW_some] <;> rfl) | (simp [*, errW_none, errW_some] <;> rfl), by repeat (first | (with_reducible first | exact HI0.out | apply IsS78.alloc | apply IsS78.drewN | apply IsS78.drew | apply IsS78.set_1) | exact HI0.out), by repeat (first | (with_reducible first | exact HB.out | apply below_alloc | apply pw_below_drewN | apply below_drew1 | refine below_set ?_ (IsS78.ge HI0.out)) | exact HB.out), by repeat (first | (with_reducible first | exact HK.out | apply KeepBut.set_ | apply keep_drewN | apply keep_drew | apply keep_alloc) | exact HK.out)⟩
      · replace c7 := Bool.eq_false_iff.mpr c7
        subst c7
        have H1 : (if (wrap64 ((wrap64 (s0_1 + 1)) - 1)) < (s0_0.length : Int) then (if 0 ≤ (wrap64 ((wrap64 (s0_1 + 1)) - 1)) then (if a1 = 0 then (none) else (some (Int.tmod (wrap64 (rd s0_0 (wrap64 ((wrap64 (s0_1 + 1)) - 1)))) a1, (wrap64 (s0_1 + 1))))) else (none)) else (if (s0_0.length : Int) = 0 then (none) else (if 0 ≤ (Int.tmod (wrap64 ((wrap64 (s0_1 + 1)) - 1)) (s0_0.length : Int)) then (if (Int.tmod (wrap64 ((wrap64 (s0_1 + 1)) - 1)) (s0_0.length : Int)) < (s0_0.length : Int) then (if 0 ≤ (Int.tmod (wrap64 ((wrap64 ((wrap64 ((wrap64 (s0_1 + 1)) - 1)) * 7)) + 3)) (s0_0.length : Int)) then (if (Int.tmod (wrap64 ((wrap64 ((wrap64 ((wrap64 (s0_1 + 1)) - 1)) * 7)) + 3)) (s0_0.length : Int)) < (s0_0.length : Int) then (if a1 = 0 then (none) else (some (Int.tmod (Go.bits .xor .i64 (wrap64 ((wrap64 ((wrap64 ((wrap64 ((wrap64 (rd s0_0 (Int.tmod (wrap64 ((wrap64 (s0_1 + 1)) - 1)) (s0_0.length : Int)))) * 131)) + (wrap64 ((wrap64 (rd s0_0 (Int.tmod (wrap64 ((wrap64 ((wrap64 ((wrap64 (s0_1 + 1)) - 1)) * 7)) + 3)) (s0_0.length : Int)))) * 1117)))) + (wrap64 ((wrap64 ((wrap64 (s0_1 + 1)) - 1)) * 29)))) + (wrap64 ((wrap64 (Int.tdiv (wrap64 ((wrap64 (s0_1 + 1)) - 1)) (s0_0.length : Int))) * 53)))) (wrap64 (Int.tdiv (wrap64 ((wrap64 ((wrap64 ((wrap64 ((wrap64 (rd s0_0 (Int.tmod (wrap64 ((wrap64 (s0_1 + 1)) - 1)) (s0_0.length : Int)))) * 131)) + (wrap64 ((wrap64 (rd s0_0 (Int.tmod (wrap64 ((wrap64 ((wrap64 ((wrap64 (s0_1 + 1)) - 1)) * 7)) + 3)) (s0_0.length : Int)))) * 1117)))) + (wrap64 ((wrap64 ((wrap64 (s0_1 + 1)) - 1)) * 29)))) + (wrap64 ((wrap64 (Int.tdiv (wrap64 ((wrap64 (s0_1 + 1)) - 1)) (s0_0.length : Int))) * 53)))) 64))) a1, (wrap64 (s0_1 + 1))))) else (none)) else (none)) else (none)) else (none)))) = some (r1, r2) := by rw [if_neg (show ¬ (false = true) by decide)] at H; exact H
        clear H
        have H := H1
        clear H1
        by_cases c8 : (wrap64 ((wrap64 (s0_1 + 1)) - 1)) < (s0_0.length : Int)
        · rw [if_pos c8] at H
          have c8b0 : decide ((wrap64 ((wrap64 (s0_1 + 1)) - 1)) < (s0_0.length : Int)) = true := decide_eq_true c8
          clear c8
          obtain ⟨ji9, hji9⟩ : ∃ j_ : Int, (wrap64 ((wrap64 (s0_1 + 1)) - 1)) = j_ := ⟨_, rfl⟩
          replace H : (if 0 ≤ (ji9) then (if a1 = 0 then (none) else (some (Int.tmod (wrap64 (rd s0_0 (ji9))) a1, (wrap64 (s0_1 + 1))))) else (none)) = some (r1, r2) := by first | (rw [hji9] at H; exact H) | (simp only [hji9] at H ⊢; exact H)
          (try rw [hji9] at c8b0)
          have hji9w : (IntKind.i64.wrap ((wrap64 (s0_1 + 1)) - 1)) = ji9 := (i64_w _).trans hji9
          by_cases c10 : 0 ≤ (ji9)
          · rw [if_pos c10] at H
            have c10b0 : decide (0 ≤ (ji9)) = true := decide_eq_true c10
            clear c10
            by_cases c11 : a1 = 0
            · rw [if_pos c11] at H
              exact absurd H (by simp)
            · rw [if_neg c11] at H
              have c11b0 : (a1 == 0) = false := beq_eq_false_iff_ne.mpr c11
              have c11b1 : (a1 != 0) = true := bne_iff_ne.mpr c11
              simp only [Option.some.injEq, Prod.mk.injEq] at H
              obtain ⟨rfl, rfl⟩ := H
              obtain ⟨ASz12_0, cSz12_0, HGz12, hgz12, HSz12_0⟩ := HI0.out
              have hcz12_0 := cellS78_0 HGz12
              have hcz12_1 := cellS78_1 HGz12
              have hfz12_1 := blk_frozen HGz12 1
              clear HGz12 hgz12
              have p203 : 0 ≤ ((ji9) : Int) := of_decide_eq_true (by first | (with_reducible assumption) | assumption)
              have q203 : (ji9) < (s0_0.length : Int) := of_decide_eq_true (by first | (with_reducible assumption) | assumption)
              obtain ⟨ad203, e203, hx203_0⟩ := Kd.at_int HSz12_0 (ji9) p203 q203
              cases e203
              replace hx203_0 := pw_cell_below HB.out hx203_0
              replace p203 := eq_true p203
              replace q203 := eq_true q203
              go_wp2
              repeat (go_quiet (fail); try go_wp2)
              go_ret
              exact ⟨by first | rfl | (simp [errW_none, errW_some] <;> rfl) | (simp only [← hji9]; first | rfl | (simp [errW_none, errW_some] <;> rfl)) | (simp [*, errW_none, errW_some] <;> rfl), by repeat (first | (with_reducible first | exact HI0.out | apply IsS78.alloc | apply IsS78.drewN | apply IsS78.drew | apply IsS78.set_1) | exact HI0.out), by repeat (first | (with_reducible first | exact HB.out | apply below_alloc | apply pw_below_drewN | apply below_drew1 | refine below_set ?_ (IsS78.ge HI0.out)) | exact HB.out), by repeat (first | (with_reducible first | exact HK.out | apply KeepBut.set_ | apply keep_drewN | apply keep_drew | apply keep_alloc) | exact HK.out)⟩
          · rw [if_neg c10] at H
            exact absurd H (by simp)
        · rw [if_neg c8] at H
          have c8b0 : decide ((wrap64 ((wrap64 (s0_1 + 1)) - 1)) < (s0_0.length : Int)) = false := decide_eq_false c8
          clear c8
          by_cases c13 : (s0_0.length : Int) = 0
          · rw [if_pos c13] at H
            exact absurd H (by simp)
          · rw [if_neg c13] at H
            have c13b0 : ((s0_0.length : Int) == 0) = false := beq_eq_false_iff_ne.mpr c13
            have c13b1 : ((s0_0.length : Int) != 0) = true := bne_iff_ne.mpr c13
            have c13b2 : ¬ (s0_0 = []) := fun h_ => c13 (by rw [h_]; rfl)
            obtain ⟨ji14, hji14⟩ : ∃ j_ : Int, (Int.tmod (wrap64 ((wrap64 (s0_1 + 1)) - 1)) (s0_0.length : Int)) = j_ := ⟨_, rfl⟩
            replace H : (if 0 ≤ (ji14) then (if (ji14) < (s0_0.length : Int) then (if 0 ≤ (Int.tmod (wrap64 ((wrap64 ((wrap64 ((wrap64 (s0_1 + 1)) - 1)) * 7)) + 3)) (s0_0.length : Int)) then (if (Int.tmod (wrap64 ((wrap64 ((wrap64 ((wrap64 (s0_1 + 1)) - 1)) * 7)) + 3)) (s0_0.length : Int)) < (s0_0.length : Int) then (if a1 = 0 then (none) else (some (Int.tmod (Go.bits .xor .i64 (wrap64 ((wrap64 ((wrap64 ((wrap64 ((wrap64 (rd s0_0 (ji14))) * 131)) + (wrap64 ((wrap64 (rd s0_0 (Int.tmod (wrap64 ((wrap64 ((wrap64 ((wrap64 (s0_1 + 1)) - 1)) * 7)) + 3)) (s0_0.length : Int)))) * 1117)))) + (wrap64 ((wrap64 ((wrap64 (s0_1 + 1)) - 1)) * 29)))) + (wrap64 ((wrap64 (Int.tdiv (wrap64 ((wrap64 (s0_1 + 1)) - 1)) (s0_0.length : Int))) * 53)))) (wrap64 (Int.tdiv (wrap64 ((wrap64 ((wrap64 ((wrap64 ((wrap64 (rd s0_0 (ji14))) * 131)) + (wrap64 ((wrap64 (rd s0_0 (Int.tmod (wrap64 ((wrap64 ((wrap64 ((wrap64 (s0_1 + 1)) - 1)) * 7)) + 3)) (s0_0.length : Int)))) * 1117)))) + (wrap64 ((wrap64 ((wrap64 (s0_1 + 1)) - 1)) * 29)))) + (wrap64 ((wrap64 (Int.tdiv (wrap64 ((wrap64 (s0_1 + 1)) - 1)) (s0_0.length : Int))) * 53)))) 64))) a1, (wrap64 (s0_1 + 1))))) else (none)) else (none)) else (none)) else (none)) = some (r1, r2) := by first | (rw [hji14] at H; exact H) | (simp only [hji14] at H ⊢; exact H)
            by_cases c15 : 0 ≤ (ji14)
            · rw [if_pos c15] at H
              have c15b0 : decide (0 ≤ (ji14)) = true := decide_eq_true c15
              clear c15
              by_cases c16 : (ji14) < (s0_0.length : Int)
              · rw [if_pos c16] at H
                have c16b0 : decide ((ji14) < (s0_0.length : Int)) = true := decide_eq_true c16
                clear c16
                obtain ⟨ji17, hji17⟩ : ∃ j_ : Int, (Int.tmod (wrap64 ((wrap64 ((wrap64 ((wrap64 (s0_1 + 1)) - 1)) * 7)) + 3)) (s0_0.length : Int)) = j_ := ⟨_, rfl⟩
                replace H : (if 0 ≤ (ji17) then (if (ji17) < (s0_0.length : Int) then (if a1 = 0 then (none) else (some (Int.tmod (Go.bits .xor .i64 (wrap64 ((wrap64 ((wrap64 ((wrap64 ((wrap64 (rd s0_0 (ji14))) * 131)) + (wrap64 ((wrap64 (rd s0_0 (ji17))) * 1117)))) + (wrap64 ((wrap64 ((wrap64 (s0_1 + 1)) - 1)) * 29)))) + (wrap64 ((wrap64 (Int.tdiv (wrap64 ((wrap64 (s0_1 + 1)) - 1)) (s0_0.length : Int))) * 53)))) (wrap64 (Int.tdiv (wrap64 ((wrap64 ((wrap64 ((wrap64 ((wrap64 (rd s0_0 (ji14))) * 131)) + (wrap64 ((wrap64 (rd s0_0 (ji17))) * 1117)))) + (wrap64 ((wrap64 ((wrap64 (s0_1 + 1)) - 1)) * 29)))) + (wrap64 ((wrap64 (Int.tdiv (wrap64 ((wrap64 (s0_1 + 1)) - 1)) (s0_0.length : Int))) * 53)))) 64))) a1, (wrap64 (s0_1 + 1))))) else (none)) else (none)) = some (r1, r2) := by first | (rw [hji17] at H; exact H) | (simp only [hji17] at H ⊢; exact H)
                by_cases c18 : 0 ≤ (ji17)
                · rw [if_pos c18] at H
                  have c18b0 : decide (0 ≤ (ji17)) = true := decide_eq_true c18
                  clear c18
                  by_cases c19 : (ji17) < (s0_0.length : Int)
                  · rw [if_pos c19] at H
                    have c19b0 : decide ((ji17) < (s0_0.length : Int)) = true := decide_eq_true c19
                    clear c19
                    by_cases c20 : a1 = 0
                    · rw [if_pos c20] at H
                      exact absurd H (by simp)
                    · rw [if_neg c20] at H
                      have c20b0 : (a1 == 0) = false := beq_eq_false_iff_ne.mpr c20
                      have c20b1 : (a1 != 0) = true := bne_iff_ne.mpr c20
                      simp only [Option.some.injEq, Prod.mk.injEq] at H
                      obtain ⟨rfl, rfl⟩ := H
                      obtain ⟨ASz21_0, cSz21_0, HGz21, hgz21, HSz21_0⟩ := HI0.out
                      have hcz21_0 := cellS78_0 HGz21
                      have hcz21_1 := cellS78_1 HGz21
                      have hfz21_1 := blk_frozen HGz21 1
                      clear HGz21 hgz21
                      have p204 : 0 ≤ ((ji14) : Int) := of_decide_eq_true (by first | (with_reducible assumption) | assumption)
                      have q204 : (ji14) < (s0_0.length : Int) := of_decide_eq_true (by first | (with_reducible assumption) | assumption)
                      obtain ⟨ad204, e204, hx204_0⟩ := Kd.at_int HSz21_0 (ji14) p204 q204
                      cases e204
                      replace hx204_0 := pw_cell_below HB.out hx204_0
                      replace p204 := eq_true p204
                      replace q204 := eq_true q204
                      have p205 : 0 ≤ ((ji17) : Int) := of_decide_eq_true (by first | (with_reducible assumption) | assumption)
                      have q205 : (ji17) < (s0_0.length : Int) := of_decide_eq_true (by first | (with_reducible assumption) | assumption)
                      obtain ⟨ad205, e205, hx205_0⟩ := Kd.at_int HSz21_0 (ji17) p205 q205
                      obtain rfl : ad204 = ad205 := (by injection e205)
                      replace hx205_0 := pw_cell_below HB.out hx205_0
                      replace p205 := eq_true p205
                      replace q205 := eq_true q205
                      go_wp2
                      repeat (go_quiet (fail); try go_wp2)
                      go_ret
                      exact ⟨by first | rfl | (simp [errW_none, errW_some] <;> rfl) | (simp only [← hji14, ← hji17]; first | rfl | (simp [errW_none, errW_some] <;> rfl)) | (simp [*, errW_none, errW_some] <;> rfl), by repeat (first | (with_reducible first | exact HI0.out | apply IsS78.alloc | apply IsS78.drewN | apply IsS78.drew | apply IsS78.set_1) | exact HI0.out), by repeat (first | (with_reducible first | exact HB.out | apply below_alloc | apply pw_below_drewN | apply below_drew1 | refine below_set ?_ (IsS78.ge HI0.out)) | exact HB.out), by repeat (first | (with_reducible first | exact HK.out | apply KeepBut.set_ | apply keep_drewN | apply keep_drew | apply keep_alloc) | exact HK.out)⟩
                  · rw [if_neg c19] at H
                    exact absurd H (by simp)
                · rw [if_neg c18] at H
                  exact absurd H (by simp)
              · rw [if_neg c16] at H
                exact absurd H (by simp)
            · rw [if_neg c15] at H
              exact absurd H (by simp)

def spec_l15Rd_num.f (k : Nat) (s0_0 : List Int) (s0_1 : Int) (l1 : List Int) : Option (Int × Int) := (spec_l15Rd_pick.f k s0_0 s0_1 (l1.length : Int)).bind fun bt206 => (if 0 ≤ bt206.1 then (if bt206.1 < (l1.length : Int) then (some (rd l1 bt206.1, bt206.2)) else (none)) else (none))
theorem spec_l15Rd_num.mono : ∀ a0 a1 a2 k, LeO (spec_l15Rd_num.f k a0 a1 a2) (spec_l15Rd_num.f (k + 1) a0 a1 a2) := by
  intro a0 a1 a2 k
  unfold spec_l15Rd_num.f
  repeat' first
      | (with_reducible exact spec_l15Rd_pick.mono _ _ _ _)
      | (with_reducible exact LeO.refl _)
      | (with_reducible exact LeO.none _)
      | (with_reducible refine LeO.ite ?_ ?_)
      | (with_reducible refine LeO.bind ?_ (fun _ => ?_))
      | exact spec_l15Rd_pick.mono _ _ _ _
      | exact LeO.none _
      | refine LeO.ite ?_ ?_
      | refine LeO.bind ?_ (fun _ => ?_)
set_option maxHeartbeats 8000000 in
set_option maxRecDepth 100000 in
theorem spec_l15Rd_num.calls (k : Nat) (g : Nat) (s0_0 : List Int) (s0_1 : Int) (A1 : Option Addr) (c1 : Nat) (l1 : List Int) (r1 : Int) (r2 : Int) (w0 w : World) (hI : IsS78 w0 w g s0_0 s0_1) (hB : Below w0.heap.size w0 w) (hr1 : Kd.C (Kd.int .i64) w A1 l1.length l1) (hc1 : l1.length ≤ c1) (hf1 : ∀ ad, A1 = some ad → 0 < l1.length → ad.block ≠ g) (h : spec_l15Rd_num.f k s0_0 s0_1 l1 = some (r1, r2)) :
    Calls Tryd.prog 62 #[.pointer (some ⟨g, 0, none⟩), .slice A1 l1.length c1] w fun e w' => e = .returned (.int .i64 r1) ∧ IsS78 w0 w' g s0_0 r2 ∧ Below w0.heap.size w0 w' ∧ KeepBut w w' g none := by
  have HR1 := Aside0.mk hr1
  have HC1 := Aside0.mk hc1
  clear hr1 hc1
  have HI0 := Aside0.mk hI
  have HK := Aside0.mk (KeepBut.refl w g none)
  have HL := Aside0.mk hB.size
  clear hI
  have HW0 := Aside0.mk hB.size
  have HB := Aside0.mk hB
  clear hB
  have H : ((spec_l15Rd_pick.f k s0_0 s0_1 (l1.length : Int)).bind fun bt206 => (if 0 ≤ bt206.1 then (if bt206.1 < (l1.length : Int) then (some (rd l1 bt206.1, bt206.2)) else (none)) else (none))) = some (r1, r2) := h
  clear h
  replace H := Option.bind_eq_some_iff.mp H
  obtain ⟨⟨t206, t207⟩, A30, H⟩ := H
  replace H : (if 0 ≤ t206 then (if t206 < (l1.length : Int) then (some (rd l1 t206, t207)) else (none)) else (none)) = some (r1, r2) := H
  have A3 := Aside0.mk A30
  clear A30
  by_cases c4 : 0 ≤ t206
  · rw [if_pos c4] at H
    have c4b0 : decide (0 ≤ t206) = true := decide_eq_true c4
    clear c4
    by_cases c5 : t206 < (l1.length : Int)
    · rw [if_pos c5] at H
      have c5b0 : decide (t206 < (l1.length : Int)) = true := decide_eq_true c5
      clear c5
      simp only [Option.some.injEq, Prod.mk.injEq] at H
      obtain ⟨rfl, rfl⟩ := H
      go_enter Tryd.func62, Tryd.ntmps62
      go_wp2_with (first | ((with_reducible refine gate_callee (f := 31) rfl ?_); refine goesL_ (some 9) rfl rfl Tryd.func31 (by kernel_rfl) rfl #[.pointer (some ⟨g, 0, none⟩), .int .i64 (l1.length : Int)] rfl (by (try simp only [List.map_toArray, List.map_cons, List.map_nil]); first | done | rfl | (simp only [List.length_drop, List.length_take]; rfl)) ?_; (with_reducible refine (spec_l15Rd_pick.calls k g s0_0 s0_1 (l1.length : Int) t206 t207 w0 _ ?side1 ?side2 A3.out).mono ?_); (case side1 => repeat (first | (with_reducible first | exact HI0.out | apply IsS78.alloc | apply IsS78.drewN | apply IsS78.drew | apply IsS78.set_1) | exact HI0.out)); (case side2 => repeat (first | (with_reducible first | exact HB.out | apply below_alloc | apply pw_below_drewN | apply below_drew1 | refine below_set ?_ (IsS78.ge HI0.out)) | exact HB.out)); rintro e w6 ⟨rfl, hi, hb, hk⟩; refine ⟨_, rfl, ?_⟩; have n0_ := Aside0.mk (KeepBut.trans (by repeat (first | (with_reducible first | exact HK.out | apply KeepBut.set_ | apply keep_drewN | apply keep_drew | apply keep_alloc) | exact HK.out)) hk (.inl rfl)); have n1_ := Aside0.mk (hb); have n2_ := Aside0.mk (hi); clear HK; clear HB; clear HI0; have HK := n0_; have HB := n1_; have HI0 := n2_; clear n0_ n1_ n2_; (try clear hb); (try clear hb2); (try clear hk); (try clear hi); have p208 : 0 ≤ (t206 : Int) := of_decide_eq_true (by first | (with_reducible assumption) | assumption); have q208 : t206 < (l1.length : Int) := of_decide_eq_true (by first | (with_reducible assumption) | assumption); obtain ⟨ad208, e208, hx208_0⟩ := Kd.at_int HR1.out t206 p208 q208; cases e208; replace hx208_0 := keep_cell HK.out hx208_0 (by first | (rw [add_block]; exact hf1 _ rfl (by omega)) | exact hf1 _ rfl (by omega) | exact hf1 ad208 rfl (by omega)); replace p208 := eq_true p208; replace q208 := eq_true q208))
      go_ret
      exact ⟨by first | rfl | (simp [errW_none, errW_some] <;> rfl) | (simp [*, errW_none, errW_some] <;> rfl), by repeat (first | (with_reducible first | exact HI0.out | apply IsS78.alloc | apply IsS78.drewN | apply IsS78.drew | apply IsS78.set_1) | exact HI0.out), by repeat (first | (with_reducible first | exact HB.out | apply below_alloc | apply pw_below_drewN | apply below_drew1 | refine below_set ?_ (IsS78.ge HI0.out)) | exact HB.out), by repeat (first | (with_reducible first | exact HK.out | apply KeepBut.set_ | apply keep_drewN | apply keep_drew | apply keep_alloc) | exact HK.out)⟩
    · rw [if_neg c5] at H
      exact absurd H (by simp)
  · rw [if_neg c4] at H
    exact absurd H (by simp)

def spec_l1Name.f (a0 : ByteArray) : Option (Int × ByteArray × Int × List Int × (List (S26))) := some (1, a0, 0, ([] : List Int), ([] : List (S26)))
set_option maxHeartbeats 8000000 in
set_option maxRecDepth 100000 in
theorem spec_l1Name.calls (a0 : ByteArray) (r1 : Int) (r2 : ByteArray) (r3 : Int) (r4 : List Int) (r5 : List (S26)) (w : World) (h : spec_l1Name.f a0 = some (r1, r2, r3, r4, r5)) :
    Calls Tryd.prog 63 #[.string a0] w fun e w' => ∃ v3_ v4_ : Value, e = .returned (.agg #[.int .i64 r1, .string r2, .int .i64 r3, v3_, v4_]) ∧ Kd.R (Kd.int .i64) 3 w' w.heap.size (fun _ => True) v3_ r4 ∧ Kd.R k26 26 w' w.heap.size (fun k_ => some k_ ≠ (v3_ : Value).ownBlock) v4_ r5 ∧ Below w.heap.size w w' := by
  have hu26 := Tryd.underlying26
  have HB := Aside0.mk (Below.refl w.heap.size w)
  have H : (some (1, a0, 0, ([] : List Int), ([] : List (S26)))) = some (r1, r2, r3, r4, r5) := h
  clear h
  simp only [Option.some.injEq, Prod.mk.injEq] at H
  obtain ⟨rfl, rfl, rfl, rfl, rfl⟩ := H
  go_enter Tryd.func63, Tryd.ntmps63
  go_wp2_with (first | ((with_reducible refine gate_dst (N := 2) rfl ?_); refine box_event ?hg (N := 2) ?hd (cs := #[.int .i64 0, .string (⟨#[]⟩ : ByteArray), .int .i64 0, .slice none 0 0, .slice none 0 0]) (t := 26) ?hr ?_; (case hd => rfl); (case hg => rfl); (case hr => first | (go_simp; done) | (go_simp; rfl)); intro gb209 hg w2 hbox hb; have n0_ := Aside0.mk (below_step (by repeat (first | (with_reducible first | exact HB.out | apply below_alloc | apply pw_below_drewN | apply below_drew1) | exact HB.out)) hb); have n1_ := Aside0.mk (hbox); have n2_ := Aside0.mk ((by rw [hg]; exact (below_size (by repeat (first | (with_reducible first | exact HB.out | apply below_alloc | apply pw_below_drewN | apply below_drew1) | exact HB.out))) : w.heap.size ≤ gb209)); have n3_ := Aside0.mk ((by rw [hg]; exact (below_size (by repeat (first | (with_reducible first | exact HB.out | apply below_alloc | apply pw_below_drewN | apply below_drew1) | exact HB.out))) : w.heap.size ≤ gb209)); clear HB; have HB := n0_; have BK209 := n1_; have GW209 := n2_; have GE209 := n3_; clear n0_ n1_ n2_ n3_; clear hb hbox hg; have hcz3_0 : w2.cell? ⟨gb209, 0, none⟩ = some (.int .i64 0) := (blk_cell BK209.out 0).trans rfl; have hcz3_1 : w2.cell? ⟨gb209, 1, none⟩ = some (.string (⟨#[]⟩ : ByteArray)) := (blk_cell BK209.out 1).trans rfl; have hcz3_2 : w2.cell? ⟨gb209, 2, none⟩ = some (.int .i64 0) := (blk_cell BK209.out 2).trans rfl; have hcz3_3 : w2.cell? ⟨gb209, 3, none⟩ = some (.slice none 0 0) := (blk_cell BK209.out 3).trans rfl; have hcz3_4 : w2.cell? ⟨gb209, 4, none⟩ = some (.slice none 0 0) := (blk_cell BK209.out 4).trans rfl; have hfz3_0 := blk_frozen BK209.out 0; have hfz3_1 := blk_frozen BK209.out 1; have hfz3_2 := blk_frozen BK209.out 2; have hfz3_3 := blk_frozen BK209.out 3; have hfz3_4 := blk_frozen BK209.out 4))
  refine bodyPost_ret (results_cell_row rfl _ _ gb209 26 #[.int .i64 1, .string a0, .int .i64 0, .slice none 0 0, .slice none 0 0] (0, 0) _ rfl (by (with_reducible repeat (first | refine blk_drewN ?_ _ | refine blk_drew ?_ | refine blk_alloc ?_ _)); refine blk_put (cs := #[.int .i64 1, .string a0, .int .i64 0, .slice none 0 0, .slice none 0 0]) ?_ 4 _ rfl; (with_reducible repeat (first | refine blk_drewN ?_ _ | refine blk_drew ?_ | refine blk_alloc ?_ _)); refine blk_put (cs := #[.int .i64 1, .string a0, .int .i64 0, .slice none 0 0, .slice none 0 0]) ?_ 3 _ rfl; (with_reducible repeat (first | refine blk_drewN ?_ _ | refine blk_drew ?_ | refine blk_alloc ?_ _)); refine blk_put (cs := #[.int .i64 1, .string a0, .int .i64 0, .slice none 0 0, .slice none 0 0]) ?_ 2 _ rfl; (with_reducible repeat (first | refine blk_drewN ?_ _ | refine blk_drew ?_ | refine blk_alloc ?_ _)); refine blk_put (cs := #[.int .i64 1, .string (⟨#[]⟩ : ByteArray), .int .i64 0, .slice none 0 0, .slice none 0 0]) ?_ 1 _ rfl; (with_reducible repeat (first | refine blk_drewN ?_ _ | refine blk_drew ?_ | refine blk_alloc ?_ _)); refine blk_put (cs := #[.int .i64 0, .string (⟨#[]⟩ : ByteArray), .int .i64 0, .slice none 0 0, .slice none 0 0]) ?_ 0 _ rfl; (with_reducible repeat (first | refine blk_drewN ?_ _ | refine blk_drew ?_ | refine blk_alloc ?_ _)); exact BK209.out) Tryd.underlying26 rfl (by kernel_rfl)) rfl ?_
  exact ⟨_, _, by first | rfl | (simp [errW_none, errW_some] <;> rfl) | (simp [*, errW_none, errW_some] <;> rfl), by first | exact Kd.R_nil _ _ _ _ _ | exact Kd.N_nil _ _ _ _ _ | exact Kd.V_nil _ _ _ _ _ | exact Kd.Q_nil _ _ _ _ _ | exact Kd.S_nil _ _ _ _ _, by first | exact Kd.R_nil _ _ _ _ _ | exact Kd.N_nil _ _ _ _ _ | exact Kd.V_nil _ _ _ _ _ | exact Kd.Q_nil _ _ _ _ _ | exact Kd.S_nil _ _ _ _ _, by repeat (first | (with_reducible first | exact HB.out | apply below_alloc | apply pw_below_drewN | apply below_drew1 | refine below_set ?_ GE209.out) | exact HB.out)⟩

def spec_l15Rd_of.f (k : Nat) (s0_0 : List Int) (s0_1 : Int) (l1 : List ByteArray) : Option (ByteArray × Int) := (spec_l15Rd_pick.f k s0_0 s0_1 (l1.length : Int)).bind fun bt210 => (if 0 ≤ bt210.1 then (if bt210.1 < (l1.length : Int) then (some (rdOf ByteArray.empty l1 bt210.1, bt210.2)) else (none)) else (none))
theorem spec_l15Rd_of.mono : ∀ a0 a1 a2 k, LeO (spec_l15Rd_of.f k a0 a1 a2) (spec_l15Rd_of.f (k + 1) a0 a1 a2) := by
  intro a0 a1 a2 k
  unfold spec_l15Rd_of.f
  repeat' first
      | (with_reducible exact spec_l15Rd_pick.mono _ _ _ _)
      | (with_reducible exact LeO.refl _)
      | (with_reducible exact LeO.none _)
      | (with_reducible refine LeO.ite ?_ ?_)
      | (with_reducible refine LeO.bind ?_ (fun _ => ?_))
      | exact spec_l15Rd_pick.mono _ _ _ _
      | exact LeO.none _
      | refine LeO.ite ?_ ?_
      | refine LeO.bind ?_ (fun _ => ?_)
set_option maxHeartbeats 8000000 in
set_option maxRecDepth 100000 in
theorem spec_l15Rd_of.calls (k : Nat) (g : Nat) (s0_0 : List Int) (s0_1 : Int) (A1 : Option Addr) (c1 : Nat) (l1 : List ByteArray) (r1 : ByteArray) (r2 : Int) (w0 w : World) (hI : IsS78 w0 w g s0_0 s0_1) (hB : Below w0.heap.size w0 w) (hr1 : Kd.C Kd.string w A1 l1.length l1) (hc1 : l1.length ≤ c1) (hf1 : ∀ ad, A1 = some ad → 0 < l1.length → ad.block ≠ g) (h : spec_l15Rd_of.f k s0_0 s0_1 l1 = some (r1, r2)) :
    Calls Tryd.prog 64 #[.pointer (some ⟨g, 0, none⟩), .slice A1 l1.length c1] w fun e w' => e = .returned (.string r1) ∧ IsS78 w0 w' g s0_0 r2 ∧ Below w0.heap.size w0 w' ∧ KeepBut w w' g none := by
  have HR1 := Aside0.mk hr1
  have HC1 := Aside0.mk hc1
  clear hr1 hc1
  have HI0 := Aside0.mk hI
  have HK := Aside0.mk (KeepBut.refl w g none)
  have HL := Aside0.mk hB.size
  clear hI
  have HW0 := Aside0.mk hB.size
  have HB := Aside0.mk hB
  clear hB
  have H : ((spec_l15Rd_pick.f k s0_0 s0_1 (l1.length : Int)).bind fun bt210 => (if 0 ≤ bt210.1 then (if bt210.1 < (l1.length : Int) then (some (rdOf ByteArray.empty l1 bt210.1, bt210.2)) else (none)) else (none))) = some (r1, r2) := h
  clear h
  replace H := Option.bind_eq_some_iff.mp H
  obtain ⟨⟨t210, t211⟩, A30, H⟩ := H
  replace H : (if 0 ≤ t210 then (if t210 < (l1.length : Int) then (some (rdOf ByteArray.empty l1 t210, t211)) else (none)) else (none)) = some (r1, r2) := H
  have A3 := Aside0.mk A30
  clear A30
  by_cases c4 : 0 ≤ t210
  · rw [if_pos c4] at H
    have c4b0 : decide (0 ≤ t210) = true := decide_eq_true c4
    clear c4
    by_cases c5 : t210 < (l1.length : Int)
    · rw [if_pos c5] at H
      have c5b0 : decide (t210 < (l1.length : Int)) = true := decide_eq_true c5
      clear c5
      simp only [Option.some.injEq, Prod.mk.injEq] at H
      obtain ⟨rfl, rfl⟩ := H
      go_enter Tryd.func64, Tryd.ntmps64
      go_wp2_with (first | ((with_reducible refine gate_callee (f := 31) rfl ?_); refine goesL_ (some 9) rfl rfl Tryd.func31 (by kernel_rfl) rfl #[.pointer (some ⟨g, 0, none⟩), .int .i64 (l1.length : Int)] rfl (by (try simp only [List.map_toArray, List.map_cons, List.map_nil]); first | done | rfl | (simp only [List.length_drop, List.length_take]; rfl)) ?_; (with_reducible refine (spec_l15Rd_pick.calls k g s0_0 s0_1 (l1.length : Int) t210 t211 w0 _ ?side1 ?side2 A3.out).mono ?_); (case side1 => repeat (first | (with_reducible first | exact HI0.out | apply IsS78.alloc | apply IsS78.drewN | apply IsS78.drew | apply IsS78.set_1) | exact HI0.out)); (case side2 => repeat (first | (with_reducible first | exact HB.out | apply below_alloc | apply pw_below_drewN | apply below_drew1 | refine below_set ?_ (IsS78.ge HI0.out)) | exact HB.out)); rintro e w6 ⟨rfl, hi, hb, hk⟩; refine ⟨_, rfl, ?_⟩; have n0_ := Aside0.mk (KeepBut.trans (by repeat (first | (with_reducible first | exact HK.out | apply KeepBut.set_ | apply keep_drewN | apply keep_drew | apply keep_alloc) | exact HK.out)) hk (.inl rfl)); have n1_ := Aside0.mk (hb); have n2_ := Aside0.mk (hi); clear HK; clear HB; clear HI0; have HK := n0_; have HB := n1_; have HI0 := n2_; clear n0_ n1_ n2_; (try clear hb); (try clear hb2); (try clear hk); (try clear hi); have p212 : 0 ≤ (t210 : Int) := of_decide_eq_true (by first | (with_reducible assumption) | assumption); have q212 : t210 < (l1.length : Int) := of_decide_eq_true (by first | (with_reducible assumption) | assumption); obtain ⟨ad212, e212, hx212_0⟩ := Kd.at_string HR1.out t210 p212 q212; cases e212; replace hx212_0 := keep_cell HK.out hx212_0 (by first | (rw [add_block]; exact hf1 _ rfl (by omega)) | exact hf1 _ rfl (by omega) | exact hf1 ad212 rfl (by omega)); replace p212 := eq_true p212; replace q212 := eq_true q212))
      go_ret
      exact ⟨by first | rfl | (simp [errW_none, errW_some] <;> rfl) | (simp [*, errW_none, errW_some] <;> rfl), by repeat (first | (with_reducible first | exact HI0.out | apply IsS78.alloc | apply IsS78.drewN | apply IsS78.drew | apply IsS78.set_1) | exact HI0.out), by repeat (first | (with_reducible first | exact HB.out | apply below_alloc | apply pw_below_drewN | apply below_drew1 | refine below_set ?_ (IsS78.ge HI0.out)) | exact HB.out), by repeat (first | (with_reducible first | exact HK.out | apply KeepBut.set_ | apply keep_drewN | apply keep_drew | apply keep_alloc) | exact HK.out)⟩
    · rw [if_neg c5] at H
      exact absurd H (by simp)
  · rw [if_neg c4] at H
    exact absurd H (by simp)

end Go.Proofs.YteeepenncddnjaaDoor.Q
end
section
namespace Go.Proofs.YteeepenncddnjaaDoor
open Go.RowKit Go.Proofs.YteeepenncddnjaaDoorW.PrintWords Go.Proofs.YteeepenncddnjaaDoorW.PrintLast Go.Proofs.YteeepenncddnjaaDoorW.PrintMore
set_option linter.unusedVariables false
set_option linter.unusedSimpArgs false
abbrev IsRd := @Q.IsS78
/-- From w to W: the source in block g stands at q; no other block of w has changed. -/
structure Dr (w0 w : World) (g : Nat) (s : List Int) (q : Int) (W : World) : Prop where
  is : IsRd w0 W g s q
  b : Below w0.heap.size w0 W
  kp : KeepBut w W g none
  lt : g < w.heap.size
section
variable {w0 w W W1 : World} {g : Nat} {s : List Int} {q q' : Int}
theorem Dr.new (hi : IsRd w0 w g s q) (hb : Below w0.heap.size w0 w) : Dr w0 w g s q w := ⟨hi, hb, KeepBut.refl _ _ _, Q.IsS78.lt hi⟩
theorem Dr.size (h : Dr w0 w g s q W) : w.heap.size ≤ W.heap.size := keep_size h.kp
theorem Dr.later (h : Dr w0 w g s q W) (hb : Below W.heap.size W W1) : Dr w0 w g s q W1 := ⟨Q.IsS78.below h.is hb, below_step h.b hb, h.kp.trans (KeepBut.of_below hb g none) (.inl rfl), h.lt⟩
theorem Dr.call (h : Dr w0 w g s q W) (h1 : IsRd w0 W1 g s q') (h2 : Below w0.heap.size w0 W1) (h3 : KeepBut W W1 g none) : Dr w0 w g s q' W1 := ⟨h1, h2, h.kp.trans h3 (.inl rfl), h.lt⟩
theorem Dr.put (h : Dr w0 w g s q W) {b j : Nat} (hb : w.heap.size ≤ b) (u : Value) : Dr w0 w g s q (W.setCell ⟨b, j, none⟩ u) := by
  have := h.lt
  have hge := Q.IsS78.ge h.is
  exact ⟨Q.IsS78.far h.is (by show g ≠ b; omega) u, below_set h.b (by show w0.heap.size ≤ b; omega), keep_far h.kp (by exact hb) u, h.lt⟩
theorem Dr.grown {row : Option Nat} (h : Dr w0 w g s q W) (hg : W.grownBy W1 row) (hr : ∀ k, row = some k → w.heap.size ≤ k) : Dr w0 w g s q W1 := by
  have hl := h.lt
  have hge := Q.IsS78.ge h.is
  have hs := h.size
  have hne : ∀ k, k < w.heap.size → some k ≠ row := fun k hk he => by
    have := hr k he.symm
    omega
  refine ⟨Q.IsS78.grown h.is hg (hne g hl), ⟨hg.os.trans h.b.os, hg.tape.trans h.b.tape, hg.output.trans h.b.output, Nat.le_trans h.b.size hg.size, fun k hk => (hg.block k (by have := h.b.size; omega) (hne k (by omega))).trans (h.b.block k hk)⟩, ⟨Nat.le_trans hs hg.size, fun i hi h1 h2 => (hg.block i (by omega) (hne i hi)).trans (h.kp.2 i hi h1 h2)⟩, hl⟩
end
structure Dp (w0 w : World) (g : Nat) (s : List Int) (q : Int) (O1 O2 : Obj) (g3 : Nat) (k : Int) (n : ByteArray) (m : Int) (sc : List Int) (ks : List Fm) (v3 v : Value) (inner : List Value) (fp : List Nat) (W : World) : Prop where
  dr : Dr w0 w g s q W
  k1 : W.heap[w.heap.size]? = some O1
  k2 : W.heap[w.heap.size + 1]? = some O2
  k3 : W.heap[g3]? = some (.cells #[.int .i64 k, .string n, .int .i64 m, v3, v] 26 (0, 0))
  h3 : w.heap.size + 2 ≤ g3
  o3 : W.ownsRow 0 3 1 v3 sc.length (encI sc)
  o4 : W.ownsRow 0 26 5 v ks.length inner
  tr : TrL W ks inner fp
  nd : (obs v3 ++ (obs v ++ fp)).Nodup
  ge : ∀ b, b ∈ obs v3 ++ (obs v ++ fp) → w.heap.size + 2 ≤ b ∧ b ≠ g3
section
variable {w0 w W W1 : World} {g : Nat} {s : List Int} {q q' : Int} {O1 O2 : Obj} {g3 : Nat} {k m : Int} {n : ByteArray} {sc : List Int} {ks : List Fm} {v3 v : Value} {inner : List Value} {fp : List Nat}
theorem Dp.lt (h : Dp w0 w g s q O1 O2 g3 k n m sc ks v3 v inner fp W) : ∀ b, b ∈ obs v3 ++ (obs v ++ fp) → b < W.heap.size := by
  intro b hb
  rcases List.mem_append.1 hb with hb | hb
  · exact own_lt h.o3 b (obs_mem.1 hb)
  rcases List.mem_append.1 hb with hb | hb
  · exact own_lt h.o4 b (obs_mem.1 hb)
  · exact h.tr.lt _ b hb
theorem Dp.lts (h : Dp w0 w g s q O1 O2 g3 k n m sc ks v3 v inner fp W) : w.heap.size + 2 ≤ W.heap.size ∧ g3 < W.heap.size := by
  have h1 := blk_lt h.k2
  have h2 := blk_lt h.k3
  omega
/-- A world in which the source stands elsewhere, and the blocks from w on stand as_ they stood. -/
theorem Dp.move (h : Dp w0 w g s q O1 O2 g3 k n m sc ks v3 v inner fp W) (hd : Dr w0 w g s q' W1) (hm : ∀ b, w.heap.size ≤ b → b < W.heap.size → W1.heap[b]? = W.heap[b]?) : Dp w0 w g s q' O1 O2 g3 k n m sc ks v3 v inner fp W1 := by
  have hl := h.lt
  have hge := h.ge
  have hs := h.lts
  have h3 := h.h3
  have hmv : ∀ b, b ∈ obs v3 ++ (obs v ++ fp) → W1.heap[b]? = W.heap[b]? := fun b hb => hm b (by have := (hge b hb).1; omega) (hl b hb)
  exact ⟨hd, (hm _ (by omega) (by omega)).trans h.k1, (hm _ (by omega) (by omega)).trans h.k2, (hm _ (by omega) (by omega)).trans h.k3, h.h3,
    own_move h.o3 (fun b hb => hmv b (by simp [obs_mem, hb])), own_move h.o4 (fun b hb => hmv b (by simp [obs_mem, hb])), h.tr.move _ (fun b hb => hmv b (by simp [hb])), h.nd, h.ge⟩
theorem Dp.later (h : Dp w0 w g s q O1 O2 g3 k n m sc ks v3 v inner fp W) (hb : Below W.heap.size W W1) : Dp w0 w g s q O1 O2 g3 k n m sc ks v3 v inner fp W1 := h.move (h.dr.later hb) (fun b _ hlt => hb.block b hlt)
theorem Dp.call (h : Dp w0 w g s q O1 O2 g3 k n m sc ks v3 v inner fp W) (h1 : IsRd w0 W1 g s q') (h2 : Below w0.heap.size w0 W1) (h3 : KeepBut W W1 g none) : Dp w0 w g s q' O1 O2 g3 k n m sc ks v3 v inner fp W1 :=
  h.move (h.dr.call h1 h2 h3) (fun b hb hlt => h3.2 b hlt (by have := h.dr.lt; omega) (by simp))
/-- The form's own cells are written: kind, name, number. -/
theorem Dp.put {j : Nat} {u : Value} {k' m' : Int} {n' : ByteArray} (h : Dp w0 w g s q O1 O2 g3 k n m sc ks v3 v inner fp W) (hj : (W.setCell ⟨g3, j, none⟩ u).heap[g3]? = some (.cells #[.int .i64 k', .string n', .int .i64 m', v3, v] 26 (0, 0))) : Dp w0 w g s q O1 O2 g3 k' n' m' sc ks v3 v inner fp (W.setCell ⟨g3, j, none⟩ u) := by
  have hge := h.ge
  have h3 := h.h3
  have hmv : ∀ b, b ≠ g3 → (W.setCell ⟨g3, j, none⟩ u).heap[b]? = W.heap[b]? := fun b hb => Below.heap_setCell _ _ _ _ (by exact hb)
  exact ⟨h.dr.put (by omega) u, (hmv _ (by omega)).trans h.k1, (hmv _ (by omega)).trans h.k2, hj, h3,
    own_move h.o3 (fun b hb => hmv b (hge b (by simp [obs_mem, hb])).2), own_move h.o4 (fun b hb => hmv b (hge b (by simp [obs_mem, hb])).2), h.tr.move _ (fun b hb => hmv b (hge b (by simp [hb])).2), h.nd, h.ge⟩
/-- The form gets other scopes: a row that is none of its parts'. -/
theorem Dp.scopes {u : Value} {sc' : List Int} {row : Option Nat} (h : Dp w0 w g s q O1 O2 g3 k n m sc ks v3 v inner fp W) (hg : W.grownBy W1 row) (hrow : ∀ b, row = some b → w.heap.size + 2 ≤ b ∧ b ≠ g3 ∧ b ∉ obs v ∧ b ∉ fp) (ho : W1.ownsRow 0 3 1 u sc'.length (encI sc')) (hu : ∀ b, u.ownBlock = some b → w.heap.size + 2 ≤ b ∧ b ≠ g3 ∧ b ∉ obs v ∧ b ∉ fp) :
    Dp w0 w g s q O1 O2 g3 k n m sc' ks u v inner fp (W1.setCell ⟨g3, 3, none⟩ u) := by
  have hl := h.lt
  have hls := h.lts
  have hge := h.ge
  have h3 := h.h3
  have hnd := h.nd
  simp only [List.nodup_append, List.mem_append] at hnd hge hl
  obtain ⟨n3, ⟨n4, n5, n45⟩, n345⟩ := hnd
  have hne : ∀ b, b < w.heap.size + 2 ∨ b = g3 ∨ b ∈ obs v ∨ b ∈ fp → some b ≠ row := by
    intro b hb he
    obtain ⟨r1, r2, r3, r4⟩ := hrow b he.symm
    rcases hb with hb | hb | hb | hb
    · omega
    · exact r2 hb
    · exact r3 hb
    · exact r4 hb
  have hmv : ∀ b, b < w.heap.size + 2 ∨ b ∈ obs v ∨ b ∈ fp → (W1.setCell ⟨g3, 3, none⟩ u).heap[b]? = W.heap[b]? := by
    intro b hb
    have hb2 : b < W.heap.size ∧ b ≠ g3 := by
      rcases hb with hb | hb | hb
      · exact ⟨by omega, by omega⟩
      · exact ⟨hl b (.inr (.inl hb)), (hge b (.inr (.inl hb))).2⟩
      · exact ⟨hl b (.inr (.inr hb)), (hge b (.inr (.inr hb))).2⟩
    rw [Below.heap_setCell _ _ _ _ (by exact hb2.2)]
    exact hg.block b hb2.1 (hne b (by rcases hb with hb | hb | hb <;> simp [hb]))
  refine ⟨(h.dr.grown hg (fun c hc => by have := (hrow c hc).1; omega)).put (by omega) u, (hmv _ (.inl (by omega))).trans h.k1, (hmv _ (.inl (by omega))).trans h.k2, ?_, h3, own_move ho (fun b hb => Below.heap_setCell _ _ _ _ (by exact (hu b hb).2.1)), own_move h.o4 (fun b hb => hmv b (.inr (.inl (obs_mem.2 hb)))), h.tr.move _ (fun b hb => hmv b (.inr (.inr hb))), ?_, ?_⟩
  · have := (hg.block g3 hls.2 (hne g3 (.inr (.inl rfl)))).trans h.k3
    simpa using blk_set this 3 u
  · simp only [List.nodup_append, List.mem_append]
    refine ⟨?_, ⟨n4, n5, n45⟩, fun a ha b hb e => ?_⟩
    · unfold obs
      cases u.ownBlock <;> simp
    · subst e
      have := hu a (obs_mem.1 ha)
      rcases hb with hb | hb
      · exact this.2.2.1 hb
      · exact this.2.2.2 hb
  · simp only [List.mem_append]
    intro b hb
    rcases hb with hb | hb | hb
    · have := hu b (obs_mem.1 hb); exact ⟨this.1, this.2.1⟩
    · exact hge b (.inr (.inl hb))
    · exact hge b (.inr (.inr hb))
/-- The form's own row of scopes is apart from its parts. -/
theorem Dp.own3 (h : Dp w0 w g s q O1 O2 g3 k n m sc ks v3 v inner fp W) : ∀ b, v3.ownBlock = some b → w.heap.size + 2 ≤ b ∧ b ≠ g3 ∧ b ∉ obs v ∧ b ∉ fp := by
  intro b hb
  have hge := h.ge b (by simp [obs_mem, hb])
  have hnd := h.nd
  simp only [List.nodup_append, List.mem_append] at hnd
  have hb3 : b ∈ obs v3 := obs_mem.2 hb
  exact ⟨hge.1, hge.2, fun hm => hnd.2.2 b hb3 b (.inl hm) rfl, fun hm => hnd.2.2 b hb3 b (.inr hm) rfl⟩
/-- A new block is none of the form's. -/
theorem Dp.fresh (h : Dp w0 w g s q O1 O2 g3 k n m sc ks v3 v inner fp W) {b : Nat} (hb : W.heap.size ≤ b) : w.heap.size + 2 ≤ b ∧ b ≠ g3 ∧ b ∉ obs v ∧ b ∉ fp := by
  have hl := h.lt
  have hls := h.lts
  refine ⟨by omega, by omega, fun hm => ?_, fun hm => ?_⟩
  · have := hl b (by simp [hm]); omega
  · have := hl b (by simp [hm]); omega
/-- One part of the form gives way to a form in new memory. -/
theorem Dp.kid {B : Nat} {y : Fm} {u3 u4 : Value} {gr cap : Nat} {a b : List Fm} {x : Fm} {ia ib : List Value} {z3 z4 : Value} {fa fx fb : List Nat}
    {N : Nat} (hN : N = ks.length) (h : Dp w0 w g s q O1 O2 g3 k n m sc ks v3 (.slice (some ⟨gr, 0, none⟩) N cap) inner fp W) (hks : ks = a ++ x :: b) (hin : inner = ia ++ ([.int .i64 x.f0, .string x.f1, .int .i64 x.f2, z3, z4] ++ ib)) (hfp : fp = fa ++ (fx ++ fb)) (ha : TrL W a ia fa) (hb : TrL W b ib fb)
    (hB : ∀ c, c ∈ obs v3 ++ (obs (.slice (some ⟨gr, 0, none⟩) N cap) ++ fp) → c < B) (hB3 : g3 < B) (hB2 : w.heap.size + 2 ≤ B) (hn : NewF B W y u3 u4) :
    ∃ fp', Dp w0 w g s q O1 O2 g3 k n m sc (a ++ y :: b) v3 (.slice (some ⟨gr, 0, none⟩) N cap) (ia ++ ([.int .i64 y.f0, .string y.f1, .int .i64 y.f2, u3, u4] ++ ib)) fp' (set5 W gr (a.length * 5) (.int .i64 y.f0) (.string y.f1) (.int .i64 y.f2) u3 u4) := by
  obtain ⟨fk, ht, hknd, hkge⟩ := hn
  have hl := h.lt
  have hls := h.lts
  have hge := h.ge
  have h3 := h.h3
  have hnd := h.nd
  have htl := ht.lt y
  subst hN hks hin hfp
  have hlen := ha.len
  obtain ⟨_, _, hput⟩ := row_put h.o4 hlen
  have hgr : gr ∈ obs (Value.slice (some ⟨gr, 0, none⟩) (a ++ x :: b).length cap) := by simp [obs, Value.ownBlock]
  have hob : ∀ c, c ∈ obs (Value.slice (some ⟨gr, 0, none⟩) (a ++ x :: b).length cap) → c = gr := by intro c hc; simpa [obs, Value.ownBlock] using hc
  simp only [List.nodup_append, List.mem_append] at hnd hge hl hB
  obtain ⟨n3, ⟨n4, ⟨na, ⟨nx, nb, nxb⟩, naxb⟩, n45⟩, n345⟩ := hnd
  have hgr3 := (hge gr (.inr (.inl hgr))).2
  have hmv : ∀ c, c ≠ gr → (set5 W gr (a.length * 5) (.int .i64 y.f0) (.string y.f1) (.int .i64 y.f2) u3 u4).heap[c]? = W.heap[c]? := fun c hc => set5_far _ _ _ _ _ _ _ _ c hc
  have hgw := (hge gr (.inr (.inl hgr))).1
  refine ⟨fa ++ (fk ++ fb), ((((h.dr.put (by omega) _).put (by omega) _).put (by omega) _).put (by omega) _).put (by omega) _, (hmv _ (by omega)).trans h.k1, (hmv _ (by omega)).trans h.k2, (hmv _ (by omega)).trans h.k3, h3, own_move h.o3 (fun c hc => hmv c (fun e => n345 c (obs_mem.2 hc) gr (.inl hgr) e)), ?_, ?_, ?_, ?_⟩
  · have := hput (.int .i64 y.f0) (.string y.f1) (.int .i64 y.f2) u3 u4
    simpa using this
  · refine (ha.move _ (fun c hc => hmv c (fun e => n45 gr hgr c (.inl hc) e.symm))).append ?_
    refine .cons y b u3 u4 ib fk fb (ht.move y (fun c hc => hmv c (fun e => ?_))) (hb.move _ (fun c hc => hmv c (fun e => n45 gr hgr c (.inr (.inr hc)) e.symm)))
    have h1 := hkge c hc
    have h2 := hB gr (.inr (.inl hgr))
    omega
  · simp only [List.nodup_append, List.mem_append]
    refine ⟨n3, ⟨n4, ⟨na, ⟨hknd, nb, fun c hc d hd e => ?_⟩, fun c hc d hd e => ?_⟩, fun c hc d hd e => ?_⟩, fun c hc d hd e => ?_⟩
    · have := hkge c hc; have := hB d (.inr (.inr (.inr (.inr hd)))); omega
    · rcases hd with hd | hd
      · have := hkge d hd; have := hB c (.inr (.inr (.inl hc))); omega
      · exact naxb c hc d (.inr hd) e
    · rcases hd with hd | hd | hd
      · exact n45 c hc d (.inl hd) e
      · have := hkge d hd; have := hB c (.inr (.inl hc)); omega
      · exact n45 c hc d (.inr (.inr hd)) e
    · rcases hd with hd | hd | hd | hd
      · exact n345 c hc d (.inl hd) e
      · exact n345 c hc d (.inr (.inl hd)) e
      · have := hkge d hd; have := hB c (.inl hc); omega
      · exact n345 c hc d (.inr (.inr (.inr hd))) e
  · simp only [List.mem_append]
    intro c hc
    rcases hc with hc | hc | hc | hc | hc
    · exact hge c (.inl hc)
    · exact hge c (.inr (.inl hc))
    · exact hge c (.inr (.inr (.inl hc)))
    · have := hkge c hc; exact ⟨by omega, by omega⟩
    · exact hge c (.inr (.inr (.inr (.inr hc))))
theorem Dp.newF (h : Dp w0 w g s q O1 O2 g3 k n m sc ks v3 v inner fp W) (hW : ∀ b, b ≠ w.heap.size + 1 → W1.heap[b]? = W.heap[b]?) : NewF w.heap.size W1 ⟨k, n, m, sc, ks⟩ v3 v := by
  have hge := h.ge
  refine ⟨_, .mk ⟨k, n, m, sc, ks⟩ v3 v inner fp (own_move h.o3 (fun b hb => hW b ?_)) (own_move h.o4 (fun b hb => hW b ?_)) (h.tr.move _ (fun b hb => hW b ?_)), h.nd, fun b hb => ?_⟩
  · have := hge b (by simp [obs_mem, hb]); omega
  · have := hge b (by simp [obs_mem, hb]); omega
  · have := hge b (by simp [hb]); omega
  · have := hge b hb; omega
/-- The copy of a form is laid into its variable. -/
theorem Dp.start {w1 : World} {x : Fm} (hd : Dr w0 w g s q w1) (hk1 : w1.heap[w.heap.size]? = some O1) (hk2 : w1.heap[w.heap.size + 1]? = some O2) (hn : NewF (w.heap.size + 2) w1 x v3 v) : ∃ inner fp, Dp w0 w g s q O1 O2 w1.heap.size x.f0 x.f1 x.f2 x.f3 x.f4 v3 v inner fp (w1.alloc (.cells #[.int .i64 x.f0, .string x.f1, .int .i64 x.f2, v3, v] 26 (0, 0))) := by
  obtain ⟨fp, ht, hnd, hge⟩ := hn
  have hb := below_new w1 (.cells #[.int .i64 x.f0, .string x.f1, .int .i64 x.f2, v3, v] 26 (0, 0))
  have hlt := ht.lt x
  have h2 := blk_lt hk2
  obtain ⟨inner, fk, rfl, o3, o4, hk⟩ := ht.open
  refine ⟨inner, fk, hd.later hb, blk_below hk1 hb, blk_below hk2 hb, blk_new _ _, by omega, own_move o3 (fun b hb2 => hb.block b (hlt b (by simp [obs_mem, hb2]))), own_move o4 (fun b hb2 => hb.block b (hlt b (by simp [obs_mem, hb2]))), hk.later hb, hnd, fun b hb2 => ⟨hge b hb2, by have := hlt b hb2; omega⟩⟩
end
end Go.Proofs.YteeepenncddnjaaDoor
end
section
namespace Go.Proofs.YteeepenncddnjaaDoor
open Go.RowKit Go.Proofs.YteeepenncddnjaaDoorW.PrintWords
set_option linter.unusedVariables false
theorem Ev.some {α : Type} {o : Option α} {r : α} (h : o = some r) : Ev (fun _ => o) r := ⟨0, fun _ _ => h⟩
theorem Ev.pos {α : Type} {c : Prop} [Decidable c] {a b : Nat → Option α} {r : α} (h : c) (e : Ev a r) : Ev (fun k => if c then a k else b k) r := by
  simp only [if_pos h]; exact e
theorem Ev.neg {α : Type} {c : Prop} [Decidable c] {a b : Nat → Option α} {r : α} (h : ¬ c) (e : Ev b r) : Ev (fun k => if c then a k else b k) r := by
  simp only [if_neg h]; exact e
theorem ev_loop {R S : Type} {L : Nat → S → Option R} (Inv : Nat → S → Prop) (n : Nat) (Post : R → Prop)
    (hs : ∀ i s, i < n → Inv i s → ∃ s', Inv (i + 1) s' ∧ ∀ r, Ev (fun k => L k s') r → Ev (fun k => L k s) r)
    (he : ∀ s, Inv n s → ∃ r, Post r ∧ Ev (fun k => L k s) r) : ∀ s, Inv 0 s → ∃ r, Post r ∧ Ev (fun k => L k s) r := by
  have key : ∀ m i s, i + m = n → Inv i s → ∃ r, Post r ∧ Ev (fun k => L k s) r := by
    intro m
    induction m with
    | zero => intro i s hi h; obtain rfl : i = n := by omega
              exact he s h
    | succ m ih =>
      intro i s hi h
      obtain ⟨s', h', hk⟩ := hs i s (by omega) h
      obtain ⟨r, hp, hr⟩ := ih (i + 1) s' (by omega) h'
      exact ⟨r, hp, hk r hr⟩
  exact fun s h => key n 0 s (by omega) h
theorem wr1 (i : Nat) (h : i < 4611686018427387904) : wrap64 ((i : Int) + 1) = ((i + 1 : Nat) : Int) := by
  rw [Go.IntWalk.wrap64_in _ ⟨by omega, by omega⟩]; omega
theorem Fm.eta (x : Fm) : (⟨x.f0, x.f1, x.f2, x.f3, x.f4⟩ : Fm) = x := by cases x; rfl
end Go.Proofs.YteeepenncddnjaaDoor
end
section
namespace Go.Proofs.YteeepenncddnjaaDoor.Q
open Go.RowKit Go.Proofs.YteeepenncddnjaaDoorW.PrintWords Go.Proofs.YteeepenncddnjaaDoorW.PrintLast Go.Proofs.YteeepenncddnjaaDoorW.PrintMore
set_option linter.unusedVariables false
set_option linter.unusedSimpArgs false

end Go.Proofs.YteeepenncddnjaaDoor.Q
end
section
namespace Go.Proofs.YteeepenncddnjaaDoor
open Go.RowKit Go.Proofs.YteeepenncddnjaaDoorW.PrintWords Go.Proofs.YteeepenncddnjaaDoor.Q
set_option linter.unusedVariables false
theorem bits_xor (a b : Nat) (ha : a < 2 ^ 40) (hb : b < 2 ^ 40) : bits .xor .i64 (a : Int) (b : Int) = ((a ^^^ b : Nat) : Int) := by
  have hp : (2 : Nat) ^ 40 ≤ 2 ^ IntKind.i64.bits := Nat.pow_le_pow_right (by decide) (by decide)
  have ha' : a % 2 ^ IntKind.i64.bits = a := Nat.mod_eq_of_lt (Nat.lt_of_lt_of_le ha hp)
  have hb' : b % 2 ^ IntKind.i64.bits = b := Nat.mod_eq_of_lt (Nat.lt_of_lt_of_le hb hp)
  simp only [bits, BitVec.ofInt_natCast, BitVec.toNat_xor, BitVec.toNat_ofNat, ha', hb']
  have h : a ^^^ b < 2 ^ 40 := Nat.xor_lt_two_pow ha hb
  rw [IntKind.wrap_i64]
  omega
/-- The bytes of an input. -/
def Bts (s : List Int) : Prop := s.length ≤ 2000 ∧ ∀ z, z ∈ s → 0 ≤ z ∧ z < 256
theorem rd_bts {s : List Int} (h : ∀ z, z ∈ s → 0 ≤ z ∧ z < 256) (i : Int) : 0 ≤ rd s i ∧ rd s i < 256 := by
  simp only [rd, List.getD]
  by_cases hi : i.toNat < s.length
  · rw [List.getElem?_eq_getElem hi]; exact h _ (List.getElem_mem hi)
  · rw [List.getElem?_eq_none (by omega)]; simp
theorem wr_in {n : Int} (h0 : 0 ≤ n) (h1 : n < 4611686018427387904) : wrap64 n = n := Go.IntWalk.wrap64_in _ ⟨by omega, by omega⟩
theorem wrN {m : Int} {n : Nat} (h : m = (n : Int)) (hn : n < 4611686018427387904) : wrap64 m = (n : Int) := by
  subst h
  exact wr_in (by omega) (by omega)
theorem pick_num (a c p dv u : Nat) (ha : a < 256) (hc : c < 256) (hp : p ≤ 1000000) (hd : dv ≤ p) (eu : u = a * 131 + c * 1117 + p * 29 + dv * 53) :
    wrap64 (a : Int) = (a : Int) ∧ wrap64 (c : Int) = (c : Int) ∧ wrap64 ((a : Int) * 131) = ((a * 131 : Nat) : Int) ∧ wrap64 ((c : Int) * 1117) = ((c * 1117 : Nat) : Int) ∧
    wrap64 (((a * 131 : Nat) : Int) + ((c * 1117 : Nat) : Int)) = ((a * 131 + c * 1117 : Nat) : Int) ∧ wrap64 ((p : Int) * 29) = ((p * 29 : Nat) : Int) ∧
    wrap64 (((a * 131 + c * 1117 : Nat) : Int) + ((p * 29 : Nat) : Int)) = ((a * 131 + c * 1117 + p * 29 : Nat) : Int) ∧ wrap64 (dv : Int) = (dv : Int) ∧
    wrap64 ((dv : Int) * 53) = ((dv * 53 : Nat) : Int) ∧ wrap64 (((a * 131 + c * 1117 + p * 29 : Nat) : Int) + ((dv * 53 : Nat) : Int)) = (u : Int) ∧
    wrap64 ((u / 64 : Nat) : Int) = ((u / 64 : Nat) : Int) ∧ bits .xor .i64 (u : Int) ((u / 64 : Nat) : Int) = ((u ^^^ (u / 64) : Nat) : Int) := by
  have hu : u < 1000000000 := by omega
  refine ⟨wrN rfl (by omega), wrN rfl (by omega), wrN (by simp) (by omega), wrN (by simp) (by omega), wrN (by simp) (by omega), wrN (by simp) (by omega), wrN (by simp) (by omega), wrN rfl (by omega), wrN (by simp) (by omega), wrN (by subst eu; simp) (by omega), wrN rfl (by omega), bits_xor _ _ (by omega) (by omega)⟩
theorem ev_pick {s : List Int} (hs : Bts s) (p : Nat) (hp : p ≤ 1000000) (n : Int) (hn : n ≤ 1000000) :
    ∃ v : Int, (1 ≤ n → 0 ≤ v ∧ v < n) ∧ Ev (fun k => spec_l15Rd_pick.f k s (p : Int) n) (v, ((p + 1 : Nat) : Int)) := by
  obtain ⟨hl, hb⟩ := hs
  have e1 : wrap64 ((p : Int) + 1) = ((p + 1 : Nat) : Int) := wr1 p (by omega)
  have e2 : wrap64 (((p + 1 : Nat) : Int) - 1) = (p : Int) := by rw [wr_in (by omega) (by omega)]; omega
  by_cases h1 : n < 1
  · refine ⟨0, fun h => by omega, ?_⟩
    simp only [spec_l15Rd_pick.f]
    refine Ev.pos h1 (Ev.step (fun k => by rw [spec_l15Rd_pick.j0]) (Ev.pos rfl ?_))
    rw [e1]; exact Ev.now _
  · by_cases h2 : s.length = 0
    · refine ⟨0, fun h => by omega, ?_⟩
      simp only [spec_l15Rd_pick.f]
      refine Ev.neg h1 (Ev.step (fun k => by rw [spec_l15Rd_pick.j0]) (Ev.pos (by simp [h2]) ?_))
      rw [e1]; exact Ev.now _
    · have h0 : (s.length : Int) ≠ 0 := by omega
      by_cases h3 : (p : Int) < (s.length : Int)
      · have hv := rd_bts hb (p : Int)
        refine ⟨Int.tmod (rd s p) n, fun h => ⟨Int.tmod_nonneg _ hv.1, Int.tmod_lt_of_pos _ (by omega)⟩, ?_⟩
        simp only [spec_l15Rd_pick.f]
        refine Ev.neg h1 (Ev.step (fun k => by rw [spec_l15Rd_pick.j0]) (Ev.neg (by simpa using h0) ?_))
        rw [e1, e2, wr_in hv.1 (by omega)]
        exact Ev.pos h3 (Ev.pos (by omega) (Ev.neg (by omega) (Ev.now _)))
      · obtain ⟨q, eq⟩ : ∃ q : Nat, q = p % s.length := ⟨_, rfl⟩
        obtain ⟨t, et⟩ : ∃ t : Nat, t = (p * 7 + 3) % s.length := ⟨_, rfl⟩
        obtain ⟨dv, ed⟩ : ∃ dv : Nat, dv = p / s.length := ⟨_, rfl⟩
        have hq : q < s.length := by rw [eq]; exact Nat.mod_lt _ (by omega)
        have ht : t < s.length := by rw [et]; exact Nat.mod_lt _ (by omega)
        have hd : dv ≤ p := by rw [ed]; exact Nat.div_le_self _ _
        have m1 : Int.tmod (p : Int) (s.length : Int) = (q : Int) := by rw [eq]; exact Go.IntWalk.up_tmod rfl rfl
        have w1 : wrap64 ((p : Int) * 7) = ((p * 7 : Nat) : Int) := wrN (by omega) (by omega)
        have w2 : wrap64 (((p * 7 : Nat) : Int) + 3) = ((p * 7 + 3 : Nat) : Int) := wrN (by omega) (by omega)
        have m2 : Int.tmod ((p * 7 + 3 : Nat) : Int) (s.length : Int) = (t : Int) := by rw [et]; exact Go.IntWalk.up_tmod rfl rfl
        have ha := rd_bts hb (q : Int)
        have hc := rd_bts hb (t : Int)
        obtain ⟨a, ea⟩ := Int.eq_ofNat_of_zero_le ha.1
        obtain ⟨c, ec⟩ := Int.eq_ofNat_of_zero_le hc.1
        have d1 : Int.tdiv (p : Int) (s.length : Int) = (dv : Int) := by rw [ed]; exact Go.IntWalk.up_tdiv rfl rfl
        rw [ea] at ha
        rw [ec] at hc
        obtain ⟨u, eu⟩ : ∃ u : Nat, u = a * 131 + c * 1117 + p * 29 + dv * 53 := ⟨_, rfl⟩
        clear eq et ed
        obtain ⟨wa, wc, wa2, wc2, w3, w4, w5, w6, w7, w8, w9, wb⟩ := pick_num a c p dv u (Int.ofNat_lt.1 ha.2) (Int.ofNat_lt.1 hc.2) hp hd eu
        have d2 : Int.tdiv (u : Int) 64 = ((u / 64 : Nat) : Int) := Go.IntWalk.up_tdiv rfl rfl
        refine ⟨Int.tmod ((u ^^^ (u / 64) : Nat) : Int) n, fun h => ⟨Int.tmod_nonneg _ (by omega), Int.tmod_lt_of_pos _ (by omega)⟩, ?_⟩
        simp only [spec_l15Rd_pick.f]
        refine Ev.neg h1 (Ev.step (fun k => by rw [spec_l15Rd_pick.j0]) (Ev.neg (by simpa using h0) ?_))
        simp only [e1, e2, w1, w2, m1, m2, d1, ea, ec, wa, wc, wa2, wc2, w3, w4, w5, w6, w7, w8, d2, w9, wb]
        exact Ev.neg h3 (Ev.neg h0 (Ev.pos (by omega) (Ev.pos (by omega) (Ev.pos (by omega) (Ev.pos (by omega) (Ev.neg (by omega) (Ev.now _)))))))
theorem ev_num {s : List Int} (hs : Bts s) (p : Nat) (hp : p ≤ 1000000) (l : List Int) (h1 : l ≠ []) (h2 : l.length ≤ 1000) :
    ∃ v : Int, v ∈ l ∧ Ev (fun k => spec_l15Rd_num.f k s (p : Int) l) (v, ((p + 1 : Nat) : Int)) := by
  have hl : 0 < l.length := List.length_pos_iff.2 h1
  obtain ⟨v, hv, he⟩ := ev_pick hs p hp (l.length : Int) (by omega)
  obtain ⟨h0, hn⟩ := hv (by omega)
  refine ⟨rd l v, ?_, ?_⟩
  · have : v.toNat < l.length := by omega
    simp only [rd, List.getD, List.getElem?_eq_getElem this, Option.getD_some]
    exact List.getElem_mem this
  · simp only [spec_l15Rd_num.f]
    exact Ev.bind he (Ev.pos h0 (Ev.pos hn (Ev.now _)))
theorem ev_of {s : List Int} (hs : Bts s) (p : Nat) (hp : p ≤ 1000000) (l : List ByteArray) (h1 : l ≠ []) (h2 : l.length ≤ 1000) :
    ∃ v : ByteArray, v ∈ l ∧ Ev (fun k => spec_l15Rd_of.f k s (p : Int) l) (v, ((p + 1 : Nat) : Int)) := by
  have hl : 0 < l.length := List.length_pos_iff.2 h1
  obtain ⟨v, hv, he⟩ := ev_pick hs p hp (l.length : Int) (by omega)
  obtain ⟨h0, hn⟩ := hv (by omega)
  refine ⟨rdOf ByteArray.empty l v, ?_, ?_⟩
  · have : v.toNat < l.length := by omega
    simp only [rdOf, List.getD, List.getElem?_eq_getElem this, Option.getD_some]
    exact List.getElem_mem this
  · simp only [spec_l15Rd_of.f]
    exact Ev.bind he (Ev.pos h0 (Ev.pos hn (Ev.now _)))
theorem ev_open (l : List Int) (h : ∀ z, z ∈ l → 0 ≤ z ∧ z < 256) : ∃ s, Bts s ∧ spec_l15Open.f l = some (s, 0) := by
  unfold spec_l15Open.f
  by_cases h2 : (l.length : Int) > 2000
  · rw [if_pos h2, if_pos (by omega)]
    exact ⟨_, ⟨by simp; omega, fun z hz => h z (List.mem_of_mem_take hz)⟩, rfl⟩
  · rw [if_neg h2]
    exact ⟨_, ⟨by omega, h⟩, rfl⟩
end Go.Proofs.YteeepenncddnjaaDoor
end
section
namespace Go.Proofs.YteeepenncddnjaaDoor
open Go.RowKit Go.Proofs.YteeepenncddnjaaDoorW.PrintWords Go.Proofs.YteeepenncddnjaaDoorW.PrintLast Go.Proofs.YteeepenncddnjaaDoorW.PrintMore
set_option linter.unusedVariables false
set_option linter.unusedSimpArgs false
/-- What a function that draws a form leaves. -/
def DrPost (w0 : World) (g : Nat) (s : List Int) (q : Int) (y : Fm) (w : World) (e : Ending) (w' : World) : Prop :=
  ∃ v3 v4, e = .returned (.agg #[.int .i64 y.f0, .string y.f1, .int .i64 y.f2, v3, v4]) ∧ NewF w.heap.size w' y v3 v4 ∧ IsRd w0 w' g s q ∧ Below w0.heap.size w0 w' ∧ KeepBut w w' g none
def DressOk (s : List Int) (x : Fm) (p : Nat) (y : Fm) (q : Nat) : Prop := ∀ (g : Nat) (A3 : Option Addr) (c3 : Nat) (A4 : Option Addr) (c4 : Nat) (w0 w : World), IsRd w0 w g s (p : Int) → Below w0.heap.size w0 w → FmIn w x A3 c3 A4 c4 →
  Calls Tryd.prog 29 #[.pointer (some ⟨g, 0, none⟩), .agg #[.int .i64 x.f0, .string x.f1, .int .i64 x.f2, .slice A3 x.f3.length c3, .slice A4 x.f4.length c4]] w (DrPost w0 g s (q : Int) y w)
theorem add_plain (b i : Nat) : (⟨b, 0, none⟩ : Addr).add i = ⟨b, i, none⟩ := by unfold Addr.add; split <;> simp_all
/-- A block of numbers reads as_ a row. -/
theorem reads_block {W : World} {b : Nat} {cs : Array Value} {l : List Int} (hb : W.heap[b]? = some (.cells cs 3 (0, 0))) (hl : l.length ≤ 1000) (hcs : cs.toList = l.map (Value.int .i64)) : kI.C W (some ⟨b, 0, none⟩) l.length l := by
  refine Kd.C_of_reads (d := (0 : Int)) (h1 := fun _ => rfl) ⟨rfl, by omega, fun hn => ⟨⟨b, 0, none⟩, rfl, fun i hi => ?_⟩⟩
  rw [add_plain, blk_cell hb i]
  have h9 := congrArg (fun z => z[i]?) hcs
  simp only [Array.getElem?_toList, List.getElem?_map] at h9
  rw [h9, List.getElem?_eq_getElem hi, List.getD_eq_getElem?_getD, List.getElem?_eq_getElem hi]
  rfl
theorem alloc_at (w : World) (o : Obj) (k : Nat) : (w.alloc o).heap[k]? = if k = w.heap.size then some o else w.heap[k]? := by
  show (w.heap.push o)[k]? = _
  rw [Array.getElem?_push]
theorem alloc_size (w : World) (o : Obj) : (w.alloc o).heap.size = w.heap.size + 1 := by simp
abbrev sets7 : List (List Int) := [(([] : List Int)), (([1] : List Int)), (([2] : List Int)), (([1, 2] : List Int)), (([1, 3] : List Int)), (([1, 2, 3] : List Int)), (([99] : List Int))]
/-- The seven sets, laid one behind the other from block B on; the row of them; an empty row. -/
theorem sets_lit {U W2 : World} {B : Nat} (hB : U.heap.size = B) (hW : ∀ b, B ≤ b → b < B + 9 → W2.heap[b]? = (((((((((U.alloc (.cells #[] 3)).alloc (.cells #[.int .i64 1] 3)).alloc (.cells #[.int .i64 2] 3)).alloc (.cells #[.int .i64 1, .int .i64 2] 3)).alloc (.cells #[.int .i64 1, .int .i64 3] 3)).alloc (.cells #[.int .i64 1, .int .i64 2, .int .i64 3] 3)).alloc (.cells #[.int .i64 99] 3)).alloc (.cells #[.slice (some ⟨B, 0, none⟩) 0 0, .slice (some ⟨B + 1, 0, none⟩) 1 1, .slice (some ⟨B + 1 + 1, 0, none⟩) 1 1, .slice (some ⟨B + 1 + 1 + 1, 0, none⟩) 2 2, .slice (some ⟨B + 1 + 1 + 1 + 1, 0, none⟩) 2 2, .slice (some ⟨B + 1 + 1 + 1 + 1 + 1, 0, none⟩) 3 3, .slice (some ⟨B + 1 + 1 + 1 + 1 + 1 + 1, 0, none⟩) 1 1] 23)).alloc (.cells #[] 3)).heap[b]?) (j : Nat) (hj : j < 7) :
    ∃ A c, W2.cell? ⟨B + 1 + 1 + 1 + 1 + 1 + 1 + 1, j, none⟩ = some (.slice A (sets7[j]'hj).length c) ∧ (sets7[j]'hj).length ≤ c ∧ kI.C W2 A (sets7[j]'hj).length (sets7[j]'hj) ∧ W2.heap[B + 1 + 1 + 1 + 1 + 1 + 1 + 1 + 1]? = some (.cells #[] 3 (0, 0)) := by
  subst hB
  have h0 := hW U.heap.size (by omega) (by omega)
  have h1 := hW (U.heap.size + 1) (by omega) (by omega)
  have h2 := hW (U.heap.size + 2) (by omega) (by omega)
  have h3 := hW (U.heap.size + 3) (by omega) (by omega)
  have h4 := hW (U.heap.size + 4) (by omega) (by omega)
  have h5 := hW (U.heap.size + 5) (by omega) (by omega)
  have h6 := hW (U.heap.size + 6) (by omega) (by omega)
  have h7 := hW (U.heap.size + 7) (by omega) (by omega)
  have h8 := hW (U.heap.size + 8) (by omega) (by omega)
  clear hW
  simp only [alloc_at, alloc_size] at h0 h1 h2 h3 h4 h5 h6 h7 h8
  repeat (first | rw [if_pos (by omega)] at h0 | rw [if_neg (by omega)] at h0)
  repeat (first | rw [if_pos (by omega)] at h1 | rw [if_neg (by omega)] at h1)
  repeat (first | rw [if_pos (by omega)] at h2 | rw [if_neg (by omega)] at h2)
  repeat (first | rw [if_pos (by omega)] at h3 | rw [if_neg (by omega)] at h3)
  repeat (first | rw [if_pos (by omega)] at h4 | rw [if_neg (by omega)] at h4)
  repeat (first | rw [if_pos (by omega)] at h5 | rw [if_neg (by omega)] at h5)
  repeat (first | rw [if_pos (by omega)] at h6 | rw [if_neg (by omega)] at h6)
  repeat (first | rw [if_pos (by omega)] at h7 | rw [if_neg (by omega)] at h7)
  repeat (first | rw [if_pos (by omega)] at h8 | rw [if_neg (by omega)] at h8)
  have hcell : ∀ (b : Nat) (cs : Array Value) (u : Value) (i : Nat) (e : TypeId), W2.heap[b]? = some (.cells cs e (0, 0)) → cs[i]? = some u → W2.cell? ⟨b, i, none⟩ = some u := fun b cs u i e hb hu => (blk_cell hb i).trans hu
  rcases (show j = 0 ∨ j = 1 ∨ j = 2 ∨ j = 3 ∨ j = 4 ∨ j = 5 ∨ j = 6 by omega) with rfl | rfl | rfl | rfl | rfl | rfl | rfl
  · exact ⟨_, _, hcell _ _ _ _ _ h7 rfl, Nat.le_refl _, reads_block h0 (by simp) rfl, h8⟩
  · exact ⟨_, _, hcell _ _ _ _ _ h7 rfl, Nat.le_refl _, reads_block h1 (by simp) rfl, h8⟩
  · exact ⟨_, _, hcell _ _ _ _ _ h7 rfl, Nat.le_refl _, reads_block h2 (by simp) rfl, h8⟩
  · exact ⟨_, _, hcell _ _ _ _ _ h7 rfl, Nat.le_refl _, reads_block h3 (by simp) rfl, h8⟩
  · exact ⟨_, _, hcell _ _ _ _ _ h7 rfl, Nat.le_refl _, reads_block h4 (by simp) rfl, h8⟩
  · exact ⟨_, _, hcell _ _ _ _ _ h7 rfl, Nat.le_refl _, reads_block h5 (by simp) rfl, h8⟩
  · exact ⟨_, _, hcell _ _ _ _ _ h7 rfl, Nat.le_refl _, reads_block h6 (by simp) rfl, h8⟩
/-- The last five stores: the form goes into the result. -/
theorem Dr.put5 {w0 w W : World} {g : Nat} {s : List Int} {q : Int} (h : Dr w0 w g s q W) {b : Nat} (hb : w.heap.size ≤ b) (u0 u1 u2 u3 u4 : Value) : Dr w0 w g s q (((((W.setCell ⟨b, 0, none⟩ u0).setCell ⟨b, 1, none⟩ u1).setCell ⟨b, 2, none⟩ u2).setCell ⟨b, 3, none⟩ u3).setCell ⟨b, 4, none⟩ u4) :=
  ((((h.put hb _).put hb _).put hb _).put hb _).put hb _
set_option maxHeartbeats 4000000 in
set_option maxRecDepth 100000 in
theorem dress_walk {s : List Int} (x : Fm) (p p1 q : Nat) (j : Nat) (hj : j < 7) (y3 : List Int) (ys : List Fm) (ps : Nat → Nat) (ht : x.tot ≤ 100000) (hpick : Ev (fun k => Q.spec_l15Rd_pick.f k s (p : Int) 7) ((j : Int), ((p + 1 : Nat) : Int)))
    (h1 : p1 = if x.f0 = 1 then p + 1 else p) (h3 : y3 = if x.f0 = 1 then sets7[j] else x.f3) (hyl : ys.length = x.f4.length) (hp0 : ps 0 = p1) (hpn : ps x.f4.length = q) (hys : ∀ (i : Nat) (hi : i < x.f4.length) (hi2 : i < ys.length), DressOk s x.f4[i] (ps i) ys[i] (ps (i + 1))) : DressOk s x p ⟨x.f0, x.f1, x.f2, y3, ys⟩ q := by
  intro g A3 c3 A4 c4 w0 w hi hb hin
  have hmax := hin.g4.2.1
  have HI := Lib.hid hin
  have HD0 := Lib.hid (Dr.new hi hb)
  have HT := Lib.hid ht
  have H1 := Lib.hid h1
  have H3 := Lib.hid h3
  have HYL := Lib.hid hyl
  have HP0 := Lib.hid hp0
  have HPN := Lib.hid hpn
  have HYS := Lib.hid hys
  have HJ := Lib.hid hj
  obtain ⟨kp, hkp⟩ := hpick.rounds
  have HKP := Lib.hid hkp
  have r1 : (0 : Int) ≤ (j : Int) := by omega
  have r2 : (j : Int) < 7 := by omega
  have hlen := len_totL x.f4
  have hxt := x.tot_eq
  have HLN := Lib.hid (show x.f4.length ≤ 100000 by omega)
  clear hin hi hb ht h1 h3 hp0 hpn hys hpick hkp hlen hxt hyl
  go_enter Tryd.func29, Tryd.ntmps29
  go_wp2_with fail
  refine (l1Copy_any x A3 c3 A4 c4 _ (HI.out.below (below_step (below_new _ _) (below_new _ _))) (by have := HT.out; omega)).mono ?_
  rintro e w1 ⟨u3, u4, rfl, hn, hb1⟩
  obtain ⟨J3, q3, J4, q4, rfl, rfl⟩ : ∃ J3 q3 J4 q4, u3 = .slice J3 x.f3.length q3 ∧ u4 = .slice J4 x.f4.length q4 := by
    obtain ⟨fk, hk2, _⟩ := hn
    obtain ⟨J3, q3, J4, q4, e3, e4, _⟩ := hk2.In
    exact ⟨J3, q3, J4, q4, e3, e4⟩
  obtain ⟨k1, k2, b1⟩ := two_new hb1
  rw [show ((w.alloc (.cells #[.int .i64 x.f0, .string x.f1, .int .i64 x.f2, .slice A3 x.f3.length c3, .slice A4 x.f4.length c4] 26)).alloc (.cells #[.int .i64 0, .string ⟨#[]⟩, .int .i64 0, .slice none 0 0, .slice none 0 0] 26)).heap.size = w.heap.size + 2 from by simp] at hn
  obtain ⟨inner, fp, hdp⟩ := Dp.start (HD0.out.later b1) k1 k2 hn
  have HDP := Lib.hid hdp
  obtain ⟨p0, p1_, p2, p3, p4⟩ := fm_cells (blk_below k1 (below_new w1 (.cells #[.int .i64 x.f0, .string x.f1, .int .i64 x.f2, .slice J3 x.f3.length q3, .slice J4 x.f4.length q4] 26 (0, 0))))
  clear hb1 hn k1 k2 b1 hdp
  go_upto_if 12 with fail
  (try simp only [Act.put, List.setIfInBounds_toArray, List.set_cons_zero, List.set_cons_succ])
  go_cut [] (fun wc => ∃ (D3 : Option Addr) (e3 : Nat) (inner : List Value) (fp : List Nat), Aside0 (Dp w0 w g s (p1 : Int) (.cells #[.int .i64 x.f0, .string x.f1, .int .i64 x.f2, .slice A3 x.f3.length c3, .slice A4 x.f4.length c4] 26) (.cells #[.int .i64 0, .string ⟨#[]⟩, .int .i64 0, .slice none 0 0, .slice none 0 0] 26) w1.heap.size x.f0 x.f1 x.f2 y3 x.f4 (.slice D3 y3.length e3) (.slice J4 x.f4.length q4) inner fp wc))
  case first =>
    by_cases hk : x.f0 = 1
    · have t1 : (x.f0 == 1) = true := beq_iff_eq.mpr hk
      have HX1 := Lib.hid hk
      clear hk
      (first | rw [t1] | skip)
      go_wp2_with fail
      refine (Q.spec_l15Rd_pick.calls kp g s (p : Int) 7 (j : Int) _ w0 _ (HDP.out.dr.later (by repeat (first | exact Below.refl _ _ | refine below_alloc ?_ _))).is (HDP.out.dr.later (by repeat (first | exact Below.refl _ _ | refine below_alloc ?_ _))).b HKP.out).mono ?_
      rintro e w2 ⟨rfl, hi2, hb2, hk2⟩
      have hset := sets_lit (U := w1.alloc (.cells #[.int .i64 x.f0, .string x.f1, .int .i64 x.f2, .slice J3 x.f3.length q3, .slice J4 x.f4.length q4] 26 (0, 0))) (W2 := w2) (B := w1.heap.size + 1) (by simp) (fun b hb1 hb2 => hk2.2 b (by simp only [alloc_size]; omega) (by have := HDP.out.dr.lt; have := HDP.out.h3; omega) (by simp)) j HJ.out
      obtain ⟨As, cs, hcell, hcl, hC, hemp⟩ := hset
      have hdp2 := (HDP.out.later (by repeat (first | exact Below.refl _ _ | refine below_alloc ?_ _))).call hi2 hb2 hk2
      have hfr := HDP.out.fresh (b := w1.heap.size + 1 + 1 + 1 + 1 + 1 + 1 + 1 + 1 + 1) (by simp only [alloc_size]; omega)
      have hR0 : kI.R 3 w2 (w1.heap.size + 1) (fun _ => True) (.slice (some ⟨w1.heap.size + 1 + 1 + 1 + 1 + 1 + 1 + 1 + 1 + 1, 0, none⟩) 0 0) [] :=
        Kd.R_of_own ⟨by simp [encs], .inr ⟨_, 0, #[], rfl, by omega, hemp, Nat.le_refl _, Nat.zero_le _, by simp, by simp [encs]⟩⟩ (fun _ _ => trivial)
      have hl7 : (sets7[j]'HJ.out).length ≤ 3 := by
        rcases (show j = 0 ∨ j = 1 ∨ j = 2 ∨ j = 3 ∨ j = 4 ∨ j = 5 ∨ j = 6 by have := HJ.out; omega) with rfl | rfl | rfl | rfl | rfl | rfl | rfl <;> simp
      have HL7 := Lib.hid hl7
      have HR0 := Aside0.mk hR0
      have HCC := Aside0.mk hC
      have HD2 := Lib.hid hdp2
      have HFR := Lib.hid hfr
      have HEL := Lib.hid (blk_lt hemp)
      clear hi2 hb2 hk2 hcl hC hemp hdp2 hfr hR0 hl7
      go_wp2_with (first | ((with_reducible refine gate_dst (N := 29) rfl ?_); refine Kd.R_append_row (Value.int .i64) (0 : Int) (w0 := w2) (w1.heap.size + 1) rfl (.tmp 21) (.tmp 28) 23 3 (.int .i64 0) 8 rfl Tryd.underlying23 infoI rfl (by decide) (.slice (some ⟨w1.heap.size + 1 + 1 + 1 + 1 + 1 + 1 + 1 + 1 + 1, 0, none⟩) 0 0) [] (sets7[j]'HJ.out) As (sets7[j]'HJ.out).length cs (fun _ => True) rfl rfl (fun _ _ => trivial) HR0.out HCC.out (Below.refl _ _) (by have := HEL.out; omega) (by have := HL7.out; simp; omega) ?_; intro v5 w3 ho5 hb5 hg5 hat5; rw [List.nil_append] at ho5; obtain ⟨D5, e5, e6⟩ := Kd.R_slice ho5; subst e6; have hbox3 := blk_grown HD2.out.k3 hg5 (by simp only [Value.ownBlock, ne_eq, Option.some.injEq]; omega); have z3 := (fm_cells hbox3).2.2.2.1; have f3 := (fm_free hbox3).2.2.2.1; have HO5 := Aside0.mk ho5; have HG5 := Lib.hid (And.intro hg5 hat5); clear hbox3 ho5 hb5 hg5 hat5))
      go_meet
      case rel =>
        have hq := H1.out
        have hy := H3.out
        rw [if_pos HX1.out] at hq hy
        rw [hq, hy]
        refine ⟨D5, e5, inner, fp, ⟨HD2.out.scopes HG5.out.1 (fun b hb => ?_) (own_weaken (Kd.own_of_R HO5.out) (Nat.zero_le _)) (fun b hb => ?_)⟩⟩
        · have e : b = w1.heap.size + 1 + 1 + 1 + 1 + 1 + 1 + 1 + 1 + 1 := by simpa [Value.ownBlock] using hb.symm
          rw [e]; exact HFR.out
        · rcases HG5.out.2 with h | ⟨c, h, hc⟩
          · rw [h] at hb
            have e : b = w1.heap.size + 1 + 1 + 1 + 1 + 1 + 1 + 1 + 1 + 1 := by simpa [Value.ownBlock] using hb.symm
            rw [e]; exact HFR.out
          · rw [h] at hb
            cases hb
            exact HD2.out.fresh hc
    · have t1 : (x.f0 == 1) = false := beq_eq_false_iff_ne.mpr hk
      have HX1 := Lib.hid hk
      clear hk
      (first | rw [t1] | skip)
      go_wp2
      go_meet
      case rel =>
        have hq := H1.out
        have hy := H3.out
        rw [if_neg HX1.out] at hq hy
        rw [hq, hy]
        exact ⟨J3, q3, inner, fp, ⟨HDP.out⟩⟩
  case rest =>
    obtain ⟨D3, e3, inner0, fp0, HCP⟩ := hcut
    clear HDP p0 p1_ p2 p3 p4 inner fp
    go_wp2_with fail
    go_loopg [7] x.f4.length (fun kq v7 w' => ∃ i : Nat, i ≤ x.f4.length ∧ x.f4.length - i ≤ kq ∧ v7 = .int .i64 i ∧ Aside0 (∃ inner fp, Dp w0 w g s (ps i : Int) (.cells #[.int .i64 x.f0, .string x.f1, .int .i64 x.f2, .slice A3 x.f3.length c3, .slice A4 x.f4.length c4] 26) (.cells #[.int .i64 0, .string ⟨#[]⟩, .int .i64 0, .slice none 0 0, .slice none 0 0] 26) w1.heap.size x.f0 x.f1 x.f2 y3 (ys.take i ++ x.f4.drop i) (.slice D3 y3.length e3) (.slice J4 x.f4.length q4) inner fp w'))
    case atStart => exact ⟨0, Nat.zero_le _, by omega, rfl, ⟨⟨inner0, fp0, by rw [HP0.out]; simpa using HCP.out⟩⟩⟩
    case round =>
      obtain ⟨i, hi, hg, rfl, HO⟩ := hrel
      by_cases hlt : i < x.f4.length
      · obtain ⟨inner, fp, hC⟩ := HO.out
        have hyl2 := HYL.out
        have hlen : (ys.take i ++ x.f4.drop i).length = x.f4.length := by simp; omega
        have ho4 := hC.o4
        rw [hlen] at ho4
        obtain ⟨gr, cap, e, hgr0, hgr1⟩ := ho4.form (by omega)
        obtain ⟨rfl, rfl⟩ : J4 = some ⟨gr, 0, none⟩ ∧ q4 = cap := by injection e with e1 _ e2; exact ⟨e1, e2⟩
        clear e
        have htr := hC.tr
        rw [List.drop_eq_getElem_cons hlt] at htr
        obtain ⟨ia, ib0, fa, fb0, rfl, rfl, hta, htb0⟩ := TrL.split _ htr
        obtain ⟨z3, z4, ib, fx, fb, rfl, rfl, htx, htb⟩ := TrL.cons_inv htb0
        have hla := hta.len
        rw [List.length_take, Nat.min_eq_left (by omega)] at hla
        obtain ⟨G3, m3, G4, m4, rfl, rfl, hkin⟩ := htx.In
        have HLEN := Lib.hid hlen
        have HTA := Lib.hid hta
        have HTB := Lib.hid htb
        have HLA := Lib.hid hla
        have HKIN := Lib.hid hkin
        have HC := Lib.hid hC
        have SK := Lib.hid (fun (W : World) (q' : Int) (h : Dp w0 w g s q' (.cells #[.int .i64 x.f0, .string x.f1, .int .i64 x.f2, .slice A3 x.f3.length c3, .slice A4 x.f4.length c4] 26) (.cells #[.int .i64 0, .string ⟨#[]⟩, .int .i64 0, .slice none 0 0, .slice none 0 0] 26) w1.heap.size x.f0 x.f1 x.f2 y3 (ys.take i ++ x.f4.drop i) (.slice D3 y3.length e3) (.slice (some ⟨gr, 0, none⟩) x.f4.length q4) (ia ++ ([.int .i64 x.f4[i].f0, .string x.f4[i].f1, .int .i64 x.f4[i].f2, .slice G3 x.f4[i].f3.length m3, .slice G4 x.f4[i].f4.length m4] ++ ib)) (fa ++ (fx ++ fb)) W) => (⟨(fm_cells h.k3).2.2.2.2, (row_put (by have := h.o4; rw [hlen] at this; exact this) hla).1⟩ : W.cell? ⟨w1.heap.size, 4, none⟩ = some (.slice (some ⟨gr, 0, none⟩) x.f4.length q4) ∧ W.cell? ⟨gr, i * 5, none⟩ = some (.int .i64 x.f4[i].f0) ∧ W.cell? ⟨gr, i * 5 + 1, none⟩ = some (.string x.f4[i].f1) ∧ W.cell? ⟨gr, i * 5 + 2, none⟩ = some (.int .i64 x.f4[i].f2) ∧ W.cell? ⟨gr, i * 5 + 3, none⟩ = some (.slice G3 x.f4[i].f3.length m3) ∧ W.cell? ⟨gr, i * 5 + 4, none⟩ = some (.slice G4 x.f4[i].f4.length m4)))
        have hp4 := (SK.out _ _ hC).1
        have s1 : (0 : Int) ≤ (i : Int) := by omega
        have s2 : (i : Int) < (x.f4.length : Int) := by omega
        clear hC hlen ho4 htr hta htb htb0 htx hla hkin hyl2 HO hgr0 hgr1
        go_wp2_with fail
        have HD := Lib.hid (HC.out.later (below_drew (Below.refl _ _)))
        have HKD := Lib.hid (HKIN.out.below (below_drew (Below.refl _ _)))
        have HDK := Lib.hid (fun b (hb : b < wr.heap.size) => (below_drew (Below.refl wr.heap.size wr)).block b hb)
        refine start_ (n := 12) (S := fun W => W.cell? ⟨w1.heap.size, 4, none⟩ = some (.slice (some ⟨gr, 0, none⟩) x.f4.length q4) ∧ W.cell? ⟨gr, i * 5, none⟩ = some (.int .i64 x.f4[i].f0) ∧ W.cell? ⟨gr, i * 5 + 1, none⟩ = some (.string x.f4[i].f1) ∧ W.cell? ⟨gr, i * 5 + 2, none⟩ = some (.int .i64 x.f4[i].f2) ∧ W.cell? ⟨gr, i * 5 + 3, none⟩ = some (.slice G3 x.f4[i].f3.length m3) ∧ W.cell? ⟨gr, i * 5 + 4, none⟩ = some (.slice G4 x.f4[i].f4.length m4)) (ds := [11]) #[false, false, false, false, false, false, false, false, false, false, false, false] (by kernel_rfl) rfl rfl (SK.out _ _ HD.out) (fun hHeld => ?_)
        clear hp4
        generalize wr.drew = wd at HD HKD HDK hHeld ⊢
        refine pure_ (i := 0) (N := some 38) (v := ?_) (a' := ?_) #[true, false, false, false, false, false, false, false, false, false, false, false] rfl rfl (by kernel_rfl) (fun _ _ _ h => h) (Or.inl ⟨by rfl, ?_⟩) ?_ ?_
        rotate_left
        · intro w'
          go_simp
          with_reducible rfl
        rotate_left
        · simp only [Act.put, List.setIfInBounds_toArray, List.set_cons_zero, List.set_cons_succ, i64_w, i32_w]
          rfl
        refine pure_ (i := 2) (N := some 40) (v := ?_) (a' := ?_) #[true, false, true, false, false, false, false, false, false, false, false, false] rfl rfl (by kernel_rfl) (fun _ _ _ h => h) (Or.inl ⟨by rfl, ?_⟩) ?_ ?_
        rotate_left
        · intro w'
          go_simp
          with_reducible rfl
        rotate_left
        · simp only [Act.put, List.setIfInBounds_toArray, List.set_cons_zero, List.set_cons_succ, i64_w, i32_w]
          rfl
        refine pure_ (i := 3) (N := some 41) (v := ?_) (a' := ?_) #[true, false, true, true, false, false, false, false, false, false, false, false] rfl rfl (by kernel_rfl) (fun _ _ _ h => h) (Or.inl ⟨by rfl, ?_⟩) ?_ ?_
        rotate_left
        · intro w'
          go_simp
          with_reducible rfl
        rotate_left
        · simp only [Act.put, List.setIfInBounds_toArray, List.set_cons_zero, List.set_cons_succ, i64_w, i32_w]
          rfl
        refine pure_ (i := 4) (N := some 42) (v := ?_) (a' := ?_) #[true, false, true, true, true, false, false, false, false, false, false, false] rfl rfl (by kernel_rfl) (fun _ _ _ h => h) (Or.inl ⟨by rfl, ?_⟩) ?_ ?_
        rotate_left
        · intro w'
          go_simp
          with_reducible rfl
        rotate_left
        · simp only [Act.put, List.setIfInBounds_toArray, List.set_cons_zero, List.set_cons_succ, i64_w, i32_w]
          rfl
        refine pure_ (i := 6) (N := some 44) (v := ?_) (a' := ?_) #[true, false, true, true, true, false, true, false, false, false, false, false] rfl rfl (by kernel_rfl) (fun _ _ _ h => h) (Or.inl ⟨by rfl, ?_⟩) ?_ ?_
        rotate_left
        · intro w'
          go_simp
          with_reducible rfl
        rotate_left
        · simp only [Act.put, List.setIfInBounds_toArray, List.set_cons_zero, List.set_cons_succ, i64_w, i32_w]
          rfl
        refine take_ (i := 1) (N := some 39) (v := ?_) (a' := ?_) #[true, true, true, true, true, false, true, false, false, false, false, false] rfl rfl (by kernel_rfl) (fun _ _ _ h => h) (Or.inl ⟨by rfl, ?_⟩) hHeld ?_ ?_
        rotate_left
        · rintro w' ⟨s0, e0, e1, e2, e3_, e4⟩
          go_simp
          with_reducible rfl
        rotate_left
        · simp only [Act.put, List.setIfInBounds_toArray, List.set_cons_zero, List.set_cons_succ, i64_w, i32_w]
          rfl
        refine take_ (i := 5) (N := some 43) (v := ?_) (a' := ?_) #[true, true, true, true, true, true, true, false, false, false, false, false] rfl rfl (by kernel_rfl) (fun _ _ _ h => h) (Or.inl ⟨by rfl, ?_⟩) hHeld ?_ ?_
        rotate_left
        · rintro w' ⟨s0, e0, e1, e2, e3_, e4⟩
          go_simp
          with_reducible rfl
        rotate_left
        · simp only [Act.put, List.setIfInBounds_toArray, List.set_cons_zero, List.set_cons_succ, i64_w, i32_w]
          rfl
        refine pure_ (i := 7) (N := some 45) (v := ?_) (a' := ?_) #[true, true, true, true, true, true, true, true, false, false, false, false] rfl rfl (by kernel_rfl) (fun _ _ _ h => h) (Or.inl ⟨by rfl, ?_⟩) ?_ ?_
        rotate_left
        · intro w'
          go_simp
          with_reducible rfl
        rotate_left
        · simp only [Act.put, List.setIfInBounds_toArray, List.set_cons_zero, List.set_cons_succ, i64_w, i32_w]
          rfl
        refine take_ (i := 8) (N := some 46) (v := ?_) (a' := ?_) #[true, true, true, true, true, true, true, true, true, false, false, false] rfl rfl (by kernel_rfl) (fun _ _ _ h => h) (Or.inl ⟨by rfl, ?_⟩) hHeld ?_ ?_
        rotate_left
        · rintro w' ⟨s0, e0, e1, e2, e3_, e4⟩
          go_simp
          with_reducible rfl
        rotate_left
        · simp only [Act.put, List.setIfInBounds_toArray, List.set_cons_zero, List.set_cons_succ, i64_w, i32_w]
          rfl
        refine one_ (i := 9) (N := some 47) #[true, true, true, true, true, true, true, true, true, true, false, false] rfl rfl (by kernel_rfl) (by decide) (fun K hK => ?_)
        refine goes_ Tryd.func29 (by kernel_rfl) rfl #[.pointer (some ⟨g, 0, none⟩), .agg #[.int .i64 x.f4[i].f0, .string x.f4[i].f1, .int .i64 x.f4[i].f2, .slice G3 x.f4[i].f3.length m3, .slice G4 x.f4[i].f4.length m4]] (by rfl) rfl rfl (by (try simp only [List.map_toArray, List.map_cons, List.map_nil]); first | done | rfl) ?_
        refine (HYS.out i hlt (by have := HYL.out; omega) g G3 m3 G4 m4 w0 wd HD.out.dr.is HD.out.dr.b HKD.out).mono ?_
        rintro e w7 ⟨u3, u4, rfl, hn, hi7, hb7, hk7⟩
        refine ⟨_, rfl, ?_⟩
        have hy9 : i < ys.length := by have := HYL.out; omega
        obtain ⟨U3, n3_, U4, n4_, rfl, rfl⟩ : ∃ U3 n3 U4 n4, u3 = .slice U3 (ys[i]'hy9).f3.length n3 ∧ u4 = .slice U4 (ys[i]'hy9).f4.length n4 := by
          obtain ⟨fk, hk2, _⟩ := hn
          obtain ⟨J3, q3, J4, q4, e3, e4, _⟩ := hk2.In
          exact ⟨J3, q3, J4, q4, e3, e4⟩
        have H7 := Lib.hid (HD.out.call hi7 hb7 hk7)
        have HN := Lib.hid hn
        have HK7 := Lib.hid hk7
        clear hn hi7 hb7 hk7
        refine hK.out _ _ (SK.out _ _ H7.out) (fun hHeld => ?_)
        clear hK K
        refine norm_ (a' := ?_) ?_ ?_
        rotate_left
        · show Act.put _ (some 47) _ = _
          simp only [Act.put, List.setIfInBounds_toArray, List.set_cons_zero, List.set_cons_succ, i64_w, i32_w]
          rfl
        refine pure_ (i := 10) (N := some 48) (v := ?_) (a' := ?_) #[true, true, true, true, true, true, true, true, true, true, true, false] rfl rfl (by kernel_rfl) (fun _ _ _ h => h) (Or.inl ⟨by rfl, ?_⟩) ?_ ?_
        rotate_left
        · intro w'
          go_simp
          with_reducible rfl
        rotate_left
        · simp only [Act.put, List.setIfInBounds_toArray, List.set_cons_zero, List.set_cons_succ, i64_w, i32_w]
          rfl
        refine last_ (i := 11) (N := none) #[true, true, true, true, true, true, true, true, true, true, true, true] rfl rfl (by kernel_rfl) (by decide) (fun K hK => ?_)
        obtain ⟨_, z0, z1, z2, z3, z4⟩ := SK.out _ _ H7.out
        have hfz := (row_put (by have := H7.out.o4; rw [HLEN.out] at this; exact this) HLA.out).2.1
        have f0 := hfz (i * 5)
        have f1 := hfz (i * 5 + 1)
        have f2 := hfz (i * 5 + 2)
        have f3 := hfz (i * 5 + 3)
        have f4 := hfz (i * 5 + 4)
        clear hfz
        have HX := Lib.hid (show ys.take i ++ ys[i] :: x.f4.drop (i + 1) = ys.take (i + 1) ++ x.f4.drop (i + 1) from by rw [List.take_succ_eq_append_getElem hy9, List.append_assoc]; rfl)
        have hla2 : (ys.take i).length = i := by have := HYL.out; simp; omega
        have hltd := HD.out.lt
        obtain ⟨fp', hC7⟩ := H7.out.kid (B := wd.heap.size) HLEN.out.symm (by rw [List.drop_eq_getElem_cons hlt]) rfl rfl (HTA.out.move _ (fun b hb => by have hl := HC.out.lt b (by simp [hb]); have hge := HC.out.ge b (by simp [hb]); have hg0 := HC.out.dr.lt; rw [HK7.out.2 b (by have := HD.out.lt b (by simp [hb]); omega) (by omega) (by simp)]; exact HDK.out b hl)) (HTB.out.move _ (fun b hb => by have hl := HC.out.lt b (by simp [hb]); have hge := HC.out.ge b (by simp [hb]); have hg0 := HC.out.dr.lt; rw [HK7.out.2 b (by have := HD.out.lt b (by simp [hb]); omega) (by omega) (by simp)]; exact HDK.out b hl)) hltd HD.out.lts.2 HD.out.lts.1 HN.out
        rw [hla2] at hC7
        rw [HX.out] at hC7
        have HC7 := Lib.hid hC7
        clear hC7 hla2 hltd
        refine skip_ (w1 := ?_) (by rfl) rfl ?_ ?_
        rotate_left
        · go_simp
          rfl
        refine hK.out _ _ ?_
        clear hK K z0 z1 z2 z3 z4 f0 f1 f2 f3 f4
        refine done_ (by kernel_rfl) ?_
        try go_wp2
        go_roundg (x.f4.length - (i + 1))
        case measure => omega
        case rel => exact ⟨i + 1, by omega, Nat.le_refl _, by go_num, ⟨⟨_, _, HC7.out⟩⟩⟩
      · obtain rfl : i = x.f4.length := by omega
        obtain ⟨inner, fp, hC⟩ := HO.out
        rw [List.drop_length, List.append_nil, List.take_of_length_le (by have := HYL.out; omega)] at hC
        have hyl2 := HYL.out
        obtain ⟨p0, p1_, p2, p3, p4⟩ := fm_cells hC.k3
        obtain ⟨z0, z1, z2, z3, z4⟩ := fm_cells hC.k2
        obtain ⟨f0, f1, f2, f3, f4⟩ := fm_free hC.k2
        have hn1 : w1.heap.size ≠ w.heap.size + 1 := by have := hC.h3; omega
        have hn2 : w.heap.size + 1 ≠ w1.heap.size := fun e => hn1 e.symm
        obtain ⟨st1, st2, st3⟩ := st5 hC.k2 (.int .i64 x.f0) (.string x.f1) (.int .i64 x.f2) (.slice D3 y3.length e3) (.slice J4 x.f4.length q4)
        have HN := Lib.hid (hC.newF st2)
        have hdr := hC.dr.put5 (b := w.heap.size + 1) (by omega) (.int .i64 x.f0) (.string x.f1) (.int .i64 x.f2) (.slice D3 y3.length e3) (.slice J4 x.f4.length q4)
        rw [HPN.out] at hdr
        have HB := Lib.hid hdr
        clear hC HO st1 st2 st3 hdr hyl2
        go_wp2_with fail
        refine bodyPost_ret (v := .agg #[.int .i64 x.f0, .string x.f1, .int .i64 x.f2, .slice D3 y3.length e3, .slice J4 x.f4.length q4]) (by simp [results, Tryd.results29, go_sem, z0, z1, z2, z3, z4]) rfl ?_
        exact ⟨_, _, rfl, HN.out, HB.out.is, HB.out.b, HB.out.kp⟩
end Go.Proofs.YteeepenncddnjaaDoor
end
section
namespace Go.Proofs.YteeepenncddnjaaDoor
open Go.RowKit Go.Proofs.YteeepenncddnjaaDoorW.PrintWords
set_option linter.unusedVariables false
set_option linter.unusedSimpArgs false
/-- What l1Dress keeps of a form, and what it gives to a name. -/
structure Drs (x y : Fm) : Prop where
  f0 : y.f0 = x.f0
  f1 : y.f1 = x.f1
  f2 : y.f2 = x.f2
  f3 : x.f0 = 1 → y.f3 ∈ sets7
  f4 : x.f4 = [] → y.f4 = []
def DressEx (s : List Int) (x : Fm) : Prop := ∀ p : Nat, p + x.size ≤ 1000000 → ∃ (y : Fm) (q : Nat), q ≤ p + x.size ∧ y.tot ≤ x.tot + 3 * x.size ∧ y.size = x.size ∧ Drs x y ∧ DressOk s x p y q
theorem dress_list {s : List Int} : ∀ (ks : List Fm), (∀ k, k ∈ ks → DressEx s k) → ∀ p : Nat, p + sizes ks ≤ 1000000 → ∃ (ys : List Fm) (ps : Nat → Nat), ys.length = ks.length ∧ ps 0 = p ∧ ps ks.length ≤ p + sizes ks ∧ totL ys ≤ totL ks + 3 * sizes ks ∧ sizes ys = sizes ks ∧ ∀ (i : Nat) (hi : i < ks.length) (hi2 : i < ys.length), DressOk s ks[i] (ps i) ys[i] (ps (i + 1))
  | [], _, p, _ => ⟨[], fun _ => p, rfl, rfl, by simp [sizes], by simp [totL], rfl, fun i hi => absurd hi (by simp)⟩
  | k :: ks, ih, p, hp => by
    simp only [sizes] at hp
    obtain ⟨y, q, h1, h2, h3, _, h5⟩ := ih k List.mem_cons_self p (by omega)
    obtain ⟨ys, ps, a1, a2, a3, a4, a5, a6⟩ := dress_list ks (fun k' hk => ih k' (List.mem_cons_of_mem _ hk)) q (by omega)
    refine ⟨y :: ys, fun i => match i with | 0 => p | i + 1 => ps i, by simp [a1], rfl, by simp only [List.length_cons, sizes]; omega, by simp only [totL, sizes]; omega, by simp only [sizes]; omega, fun i hi hi2 => ?_⟩
    cases i with
    | zero => simpa [a2] using h5
    | succ i => simpa using a6 i (by simpa using hi) (by simpa using hi2)
theorem sets7_mem {j : Nat} (hj : j < 7) : sets7[j] ∈ sets7 := List.getElem_mem hj
theorem sets7_len : ∀ z, z ∈ sets7 → z.length ≤ 3 := by
  intro z hz
  simp only [sets7, List.mem_cons, List.not_mem_nil, or_false] at hz
  rcases hz with h | h | h | h | h | h | h <;> simp [h]
theorem dress_ex {s : List Int} (hs : Bts s) : ∀ x : Fm, x.tot ≤ 100000 → DressEx s x := by
  intro x
  induction x using Fm.ind with
  | h x ih =>
    intro ht p hp
    have hsz := x.size_eq
    have htt := x.tot_eq
    obtain ⟨v, hv, hpick⟩ := ev_pick hs p (by omega) 7 (by omega)
    obtain ⟨j, rfl⟩ := Int.eq_ofNat_of_zero_le (hv (by omega)).1
    have hj : j < 7 := by have := (hv (by omega)).2; omega
    have hp1 : (if x.f0 = 1 then p + 1 else p) ≤ p + 1 := by split <;> omega
    obtain ⟨ys, ps, a1, a2, a3, a4, a5, a6⟩ := dress_list x.f4 (fun k hk => ih k hk (by have := totL_mem hk; omega)) (if x.f0 = 1 then p + 1 else p) (by omega)
    have h7 := sets7_len _ (sets7_mem hj)
    have hy3 : (if x.f0 = 1 then sets7[j] else x.f3).length ≤ x.f3.length + 3 := by split <;> omega
    refine ⟨⟨x.f0, x.f1, x.f2, if x.f0 = 1 then sets7[j] else x.f3, ys⟩, ps x.f4.length, by omega, ?_, ?_, ⟨rfl, rfl, rfl, fun h => ?_, fun h => ?_⟩, ?_⟩
    · rw [Fm.tot_eq]; dsimp only; omega
    · rw [Fm.size_eq]; dsimp only; omega
    · dsimp only; rw [if_pos h]; exact sets7_mem hj
    · dsimp only; rw [h] at a1; exact List.eq_nil_of_length_eq_zero (by simpa using a1)
    · exact dress_walk x p _ _ j hj _ ys ps ht hpick rfl rfl a1 a2 rfl a6
end Go.Proofs.YteeepenncddnjaaDoor
end
section
namespace Go.Proofs.YteeepenncddnjaaDoor
open Go.RowKit Go.Proofs.YteeepenncddnjaaDoorW.PrintWords Go.Proofs.YteeepenncddnjaaDoorW.PrintLast Go.Proofs.YteeepenncddnjaaDoorW.PrintMore
set_option linter.unusedVariables false
set_option linter.unusedSimpArgs false
theorem reads_strs {W : World} {b : Nat} {cs : Array Value} {l : List ByteArray} (hb : W.heap[b]? = some (.cells cs 9 (0, 0))) (hl : l.length ≤ 1000) (hcs : cs.toList = l.map Value.string) : Kd.string.C W (some ⟨b, 0, none⟩) l.length l := by
  refine Kd.C_of_reads (d := ByteArray.empty) (h1 := fun _ => rfl) ⟨rfl, by omega, fun hn => ⟨⟨b, 0, none⟩, rfl, fun i hi => ?_⟩⟩
  rw [add_plain, blk_cell hb i]
  have h9 := congrArg (fun z => z[i]?) hcs
  simp only [Array.getElem?_toList, List.getElem?_map] at h9
  rw [h9, List.getElem?_eq_getElem hi, List.getD_eq_getElem?_getD, List.getElem?_eq_getElem hi]
  rfl
abbrev badNms : List ByteArray := [(⟨#[]⟩ : ByteArray), (⟨#[65]⟩ : ByteArray), (⟨#[116, 111, 111, 108, 111, 110, 103, 97, 110, 97, 109, 101, 49]⟩ : ByteArray), (⟨#[122]⟩ : ByteArray), (⟨#[120, 32, 121]⟩ : ByteArray)]
def MutOk (s : List Int) (x : Fm) (p : Nat) (y : Fm) (q : Nat) : Prop := ∀ (g : Nat) (A3 : Option Addr) (c3 : Nat) (A4 : Option Addr) (c4 : Nat) (w0 w : World), IsRd w0 w g s (p : Int) → Below w0.heap.size w0 w → FmIn w x A3 c3 A4 c4 →
  Calls Tryd.prog 32 #[.pointer (some ⟨g, 0, none⟩), .agg #[.int .i64 x.f0, .string x.f1, .int .i64 x.f2, .slice A3 x.f3.length c3, .slice A4 x.f4.length c4]] w (DrPost w0 g s (q : Int) y w)
set_option maxHeartbeats 4000000 in
set_option maxRecDepth 100000 in
theorem mut_rec {s : List Int} (x : Fm) (p q : Nat) (v : Int) (i : Nat) (y : Fm) (ht : x.tot ≤ 200000) (hlt : i < x.f4.length) (hv : 0 < v) (h2 : Ev (fun k => Q.spec_l15Rd_pick.f k s (p : Int) 2) (v, ((p + 1 : Nat) : Int))) (hk : Ev (fun k => Q.spec_l15Rd_pick.f k s ((p + 1 : Nat) : Int) (x.f4.length : Int)) ((i : Int), ((p + 2 : Nat) : Int))) (hm : MutOk s x.f4[i] (p + 2) y q) : MutOk s x p ⟨x.f0, x.f1, x.f2, x.f3, x.f4.take i ++ y :: x.f4.drop (i + 1)⟩ q := by
  obtain ⟨ka, hka⟩ := h2.rounds
  obtain ⟨kb, hkb⟩ := hk.rounds
  have HKA := Lib.hid hka
  have HKB := Lib.hid hkb
  have HM := Lib.hid hm
  have HV := Lib.hid hv
  clear h2 hk hka hkb hm hv
  intro g A3 c3 A4 c4 w0 w hi hb hin
  have hmax := hin.g4.2.1
  have HI := Lib.hid hin
  have HD0 := Lib.hid (Dr.new hi hb)
  have HT := Lib.hid ht
  have hlen := len_totL x.f4
  have hxt := x.tot_eq
  have HLN := Lib.hid (show x.f4.length ≤ 200000 by omega)
  have HL3 := Lib.hid (show x.f3.length ≤ 200000 by omega)
  clear hin hi hb ht hlen hxt
  go_enter Tryd.func32, Tryd.ntmps32
  go_wp2_with fail
  refine (l1Copy_any x A3 c3 A4 c4 _ (HI.out.below (below_step (below_new _ _) (below_new _ _))) (by have := HT.out; omega)).mono ?_
  rintro e w1 ⟨u3, u4, rfl, hn, hb1⟩
  obtain ⟨J3, q3, J4, q4, rfl, rfl⟩ : ∃ J3 q3 J4 q4, u3 = .slice J3 x.f3.length q3 ∧ u4 = .slice J4 x.f4.length q4 := by
    obtain ⟨fk, hk2, _⟩ := hn
    obtain ⟨J3, q3, J4, q4, e3, e4, _⟩ := hk2.In
    exact ⟨J3, q3, J4, q4, e3, e4⟩
  obtain ⟨k1, k2, b1⟩ := two_new hb1
  rw [show ((w.alloc (.cells #[.int .i64 x.f0, .string x.f1, .int .i64 x.f2, .slice A3 x.f3.length c3, .slice A4 x.f4.length c4] 26)).alloc (.cells #[.int .i64 0, .string ⟨#[]⟩, .int .i64 0, .slice none 0 0, .slice none 0 0] 26)).heap.size = w.heap.size + 2 from by simp] at hn
  obtain ⟨inner, fp, hdp⟩ := Dp.start (HD0.out.later b1) k1 k2 hn
  have HDP := Lib.hid hdp
  clear hb1 hn k1 k2 b1 hdp
  have t1 : decide ((x.f4.length : Int) > 0) = true := decide_eq_true (by omega)
  have t1' : decide (0 < x.f4.length) = true := decide_eq_true (by omega)
  have t2 : decide (v > 0) = true := decide_eq_true HV.out
  go_wp2_with fail
  refine (Q.spec_l15Rd_pick.calls ka g s _ 2 v _ w0 _ HDP.out.dr.is HDP.out.dr.b HKA.out).mono ?_
  rintro e w2 ⟨rfl, hi, hb, hk⟩
  have hw2 := Lib.hid (HDP.out.call hi hb hk)
  clear hi hb hk
  have z4 := (fm_cells hw2.out.k3).2.2.2.2
  go_wp2_with fail
  refine (Q.spec_l15Rd_pick.calls kb g s _ (x.f4.length : Int) (i : Int) _ w0 _ hw2.out.dr.is hw2.out.dr.b HKB.out).mono ?_
  rintro e w3 ⟨rfl, hi, hb, hk⟩
  have hw3 := Lib.hid (hw2.out.call hi hb hk)
  clear hi hb hk
  obtain ⟨gr, cap, e, hgr0, hgr1⟩ := hw3.out.o4.form (by omega)
  obtain ⟨rfl, rfl⟩ : J4 = some ⟨gr, 0, none⟩ ∧ q4 = cap := by injection e with e1 _ e2; exact ⟨e1, e2⟩
  clear e
  have hdr : x.f4 = x.f4.take i ++ x.f4[i] :: x.f4.drop (i + 1) := by rw [← List.drop_eq_getElem_cons hlt, List.take_append_drop]
  have htr := hw3.out.tr
  obtain ⟨ia, ib0, fa, fb0, hin1, hfp1, hta, htb0⟩ := TrL.split (x.f4.take i) (b := x.f4[i] :: x.f4.drop (i + 1)) (by rw [← hdr]; exact htr)
  obtain ⟨z3, z4', ib, fx, fb, rfl, rfl, htx, htb⟩ := TrL.cons_inv htb0
  subst hin1 hfp1
  have hla := hta.len
  rw [List.length_take, Nat.min_eq_left (by omega)] at hla
  obtain ⟨G3, m3, G4, m4, rfl, rfl, hkin⟩ := htx.In
  have HDRX := Lib.hid hdr
  have HTA := Lib.hid hta
  have HTB := Lib.hid htb
  have HLA := Lib.hid hla
  have HKIN := Lib.hid hkin
  have SK := Lib.hid (fun (W : World) (q' : Int) (h : Dp w0 w g s q' (.cells #[.int .i64 x.f0, .string x.f1, .int .i64 x.f2, .slice A3 x.f3.length c3, .slice A4 x.f4.length c4] 26) (.cells #[.int .i64 0, .string ⟨#[]⟩, .int .i64 0, .slice none 0 0, .slice none 0 0] 26) w1.heap.size x.f0 x.f1 x.f2 x.f3 x.f4 (.slice J3 x.f3.length q3) (.slice (some ⟨gr, 0, none⟩) x.f4.length q4) (ia ++ ([.int .i64 x.f4[i].f0, .string x.f4[i].f1, .int .i64 x.f4[i].f2, .slice G3 x.f4[i].f3.length m3, .slice G4 x.f4[i].f4.length m4] ++ ib)) (fa ++ (fx ++ fb)) W) => (⟨(fm_cells h.k3).2.2.2.2, (row_put h.o4 hla).1⟩ : (fun W : World => W.cell? ⟨w1.heap.size, 4, none⟩ = some (.slice (some ⟨gr, 0, none⟩) x.f4.length q4) ∧ W.cell? ⟨gr, i * 5, none⟩ = some (.int .i64 x.f4[i].f0) ∧ W.cell? ⟨gr, i * 5 + 1, none⟩ = some (.string x.f4[i].f1) ∧ W.cell? ⟨gr, i * 5 + 2, none⟩ = some (.int .i64 x.f4[i].f2) ∧ W.cell? ⟨gr, i * 5 + 3, none⟩ = some (.slice G3 x.f4[i].f3.length m3) ∧ W.cell? ⟨gr, i * 5 + 4, none⟩ = some (.slice G4 x.f4[i].f4.length m4)) W))
  have hp4 := (SK.out _ _ hw3.out).1
  have s1 : (0 : Int) ≤ (i : Int) := by omega
  have s2 : (i : Int) < (x.f4.length : Int) := by omega
  clear hdr htr hta htb htb0 htx hla hkin hgr0 hgr1 z4 HDP hw2
  go_wp2_with fail
  have HD := Lib.hid (hw3.out.later (below_drew (Below.refl _ _)))
  have HKD := Lib.hid (HKIN.out.below (below_drew (Below.refl _ _)))
  have HDK := Lib.hid (fun b (hb : b < w3.heap.size) => (below_drew (Below.refl w3.heap.size w3)).block b hb)
  refine start_ (n := 12) (S := (fun W : World => W.cell? ⟨w1.heap.size, 4, none⟩ = some (.slice (some ⟨gr, 0, none⟩) x.f4.length q4) ∧ W.cell? ⟨gr, i * 5, none⟩ = some (.int .i64 x.f4[i].f0) ∧ W.cell? ⟨gr, i * 5 + 1, none⟩ = some (.string x.f4[i].f1) ∧ W.cell? ⟨gr, i * 5 + 2, none⟩ = some (.int .i64 x.f4[i].f2) ∧ W.cell? ⟨gr, i * 5 + 3, none⟩ = some (.slice G3 x.f4[i].f3.length m3) ∧ W.cell? ⟨gr, i * 5 + 4, none⟩ = some (.slice G4 x.f4[i].f4.length m4))) (ds := [11]) #[false, false, false, false, false, false, false, false, false, false, false, false] (by kernel_rfl) rfl rfl (SK.out _ _ HD.out) (fun hHeld => ?_)
  clear hp4
  generalize w3.drew = wd at HD HKD HDK hHeld ⊢
  refine pure_ (i := 0) (N := some 23) (v := ?_) (a' := ?_) #[true, false, false, false, false, false, false, false, false, false, false, false] rfl rfl (by kernel_rfl) (fun _ _ _ h => h) (Or.inl ⟨by rfl, ?_⟩) ?_ ?_
  rotate_left
  · intro w'
    go_simp
    with_reducible rfl
  rotate_left
  · simp only [Act.put, List.setIfInBounds_toArray, List.set_cons_zero, List.set_cons_succ, i64_w, i32_w]
    rfl
  refine pure_ (i := 2) (N := some 25) (v := ?_) (a' := ?_) #[true, false, true, false, false, false, false, false, false, false, false, false] rfl rfl (by kernel_rfl) (fun _ _ _ h => h) (Or.inl ⟨by rfl, ?_⟩) ?_ ?_
  rotate_left
  · intro w'
    go_simp
    with_reducible rfl
  rotate_left
  · simp only [Act.put, List.setIfInBounds_toArray, List.set_cons_zero, List.set_cons_succ, i64_w, i32_w]
    rfl
  refine pure_ (i := 3) (N := some 26) (v := ?_) (a' := ?_) #[true, false, true, true, false, false, false, false, false, false, false, false] rfl rfl (by kernel_rfl) (fun _ _ _ h => h) (Or.inl ⟨by rfl, ?_⟩) ?_ ?_
  rotate_left
  · intro w'
    go_simp
    with_reducible rfl
  rotate_left
  · simp only [Act.put, List.setIfInBounds_toArray, List.set_cons_zero, List.set_cons_succ, i64_w, i32_w]
    rfl
  refine pure_ (i := 4) (N := some 27) (v := ?_) (a' := ?_) #[true, false, true, true, true, false, false, false, false, false, false, false] rfl rfl (by kernel_rfl) (fun _ _ _ h => h) (Or.inl ⟨by rfl, ?_⟩) ?_ ?_
  rotate_left
  · intro w'
    go_simp
    with_reducible rfl
  rotate_left
  · simp only [Act.put, List.setIfInBounds_toArray, List.set_cons_zero, List.set_cons_succ, i64_w, i32_w]
    rfl
  refine pure_ (i := 6) (N := some 29) (v := ?_) (a' := ?_) #[true, false, true, true, true, false, true, false, false, false, false, false] rfl rfl (by kernel_rfl) (fun _ _ _ h => h) (Or.inl ⟨by rfl, ?_⟩) ?_ ?_
  rotate_left
  · intro w'
    go_simp
    with_reducible rfl
  rotate_left
  · simp only [Act.put, List.setIfInBounds_toArray, List.set_cons_zero, List.set_cons_succ, i64_w, i32_w]
    rfl
  refine take_ (i := 1) (N := some 24) (v := ?_) (a' := ?_) #[true, true, true, true, true, false, true, false, false, false, false, false] rfl rfl (by kernel_rfl) (fun _ _ _ h => h) (Or.inl ⟨by rfl, ?_⟩) hHeld ?_ ?_
  rotate_left
  · rintro w' ⟨s0, e0, e1, e2, e3_, e4⟩
    go_simp
    with_reducible rfl
  rotate_left
  · simp only [Act.put, List.setIfInBounds_toArray, List.set_cons_zero, List.set_cons_succ, i64_w, i32_w]
    rfl
  refine take_ (i := 5) (N := some 28) (v := ?_) (a' := ?_) #[true, true, true, true, true, true, true, false, false, false, false, false] rfl rfl (by kernel_rfl) (fun _ _ _ h => h) (Or.inl ⟨by rfl, ?_⟩) hHeld ?_ ?_
  rotate_left
  · rintro w' ⟨s0, e0, e1, e2, e3_, e4⟩
    go_simp
    with_reducible rfl
  rotate_left
  · simp only [Act.put, List.setIfInBounds_toArray, List.set_cons_zero, List.set_cons_succ, i64_w, i32_w]
    rfl
  refine pure_ (i := 7) (N := some 30) (v := ?_) (a' := ?_) #[true, true, true, true, true, true, true, true, false, false, false, false] rfl rfl (by kernel_rfl) (fun _ _ _ h => h) (Or.inl ⟨by rfl, ?_⟩) ?_ ?_
  rotate_left
  · intro w'
    go_simp
    with_reducible rfl
  rotate_left
  · simp only [Act.put, List.setIfInBounds_toArray, List.set_cons_zero, List.set_cons_succ, i64_w, i32_w]
    rfl
  refine take_ (i := 8) (N := some 31) (v := ?_) (a' := ?_) #[true, true, true, true, true, true, true, true, true, false, false, false] rfl rfl (by kernel_rfl) (fun _ _ _ h => h) (Or.inl ⟨by rfl, ?_⟩) hHeld ?_ ?_
  rotate_left
  · rintro w' ⟨s0, e0, e1, e2, e3_, e4⟩
    go_simp
    with_reducible rfl
  rotate_left
  · simp only [Act.put, List.setIfInBounds_toArray, List.set_cons_zero, List.set_cons_succ, i64_w, i32_w]
    rfl
  refine one_ (i := 9) (N := some 32) #[true, true, true, true, true, true, true, true, true, true, false, false] rfl rfl (by kernel_rfl) (by decide) (fun K hK => ?_)
  refine goes_ Tryd.func32 (by kernel_rfl) rfl #[.pointer (some ⟨g, 0, none⟩), .agg #[.int .i64 x.f4[i].f0, .string x.f4[i].f1, .int .i64 x.f4[i].f2, .slice G3 x.f4[i].f3.length m3, .slice G4 x.f4[i].f4.length m4]] (by rfl) rfl rfl (by (try simp only [List.map_toArray, List.map_cons, List.map_nil]); first | done | rfl) ?_
  refine (HM.out g G3 m3 G4 m4 w0 wd HD.out.dr.is HD.out.dr.b HKD.out).mono ?_
  rintro e w7 ⟨u3, u4, rfl, hn, hi7, hb7, hk7⟩
  refine ⟨_, rfl, ?_⟩
  obtain ⟨U3, n3_, U4, n4_, rfl, rfl⟩ : ∃ U3 n3 U4 n4, u3 = .slice U3 y.f3.length n3 ∧ u4 = .slice U4 y.f4.length n4 := by
    obtain ⟨fk, hk2, _⟩ := hn
    obtain ⟨J3, q3, J4, q4, e3, e4, _⟩ := hk2.In
    exact ⟨J3, q3, J4, q4, e3, e4⟩
  have H7 := Lib.hid (HD.out.call hi7 hb7 hk7)
  have HN := Lib.hid hn
  have HK7 := Lib.hid hk7
  clear hn hi7 hb7 hk7
  refine hK.out _ _ (SK.out _ _ H7.out) (fun hHeld => ?_)
  clear hK K
  refine norm_ (a' := ?_) ?_ ?_
  rotate_left
  · show Act.put _ (some 32) _ = _
    simp only [Act.put, List.setIfInBounds_toArray, List.set_cons_zero, List.set_cons_succ, i64_w, i32_w]
    rfl
  refine pure_ (i := 10) (N := some 33) (v := ?_) (a' := ?_) #[true, true, true, true, true, true, true, true, true, true, true, false] rfl rfl (by kernel_rfl) (fun _ _ _ h => h) (Or.inl ⟨by rfl, ?_⟩) ?_ ?_
  rotate_left
  · intro w'
    go_simp
    with_reducible rfl
  rotate_left
  · simp only [Act.put, List.setIfInBounds_toArray, List.set_cons_zero, List.set_cons_succ, i64_w, i32_w]
    rfl
  refine last_ (i := 11) (N := none) #[true, true, true, true, true, true, true, true, true, true, true, true] rfl rfl (by kernel_rfl) (by decide) (fun K hK => ?_)
  obtain ⟨_, z0, z1, z2, z3, z4⟩ := SK.out _ _ H7.out
  have hfz := (row_put H7.out.o4 HLA.out).2.1
  have f0 := hfz (i * 5)
  have f1 := hfz (i * 5 + 1)
  have f2 := hfz (i * 5 + 2)
  have f3 := hfz (i * 5 + 3)
  have f4 := hfz (i * 5 + 4)
  clear hfz
  have hla2 : (x.f4.take i).length = i := by simp; omega
  have hltd := HD.out.lt
  obtain ⟨fp', hC7⟩ := H7.out.kid (B := wd.heap.size) rfl HDRX.out rfl rfl (HTA.out.move _ (fun b hb => by have hl := hw3.out.lt b (by simp [hb]); have hge := hw3.out.ge b (by simp [hb]); have hg0 := hw3.out.dr.lt; rw [HK7.out.2 b (by have := HD.out.lt b (by simp [hb]); omega) (by omega) (by simp)]; exact HDK.out b hl)) (HTB.out.move _ (fun b hb => by have hl := hw3.out.lt b (by simp [hb]); have hge := hw3.out.ge b (by simp [hb]); have hg0 := hw3.out.dr.lt; rw [HK7.out.2 b (by have := HD.out.lt b (by simp [hb]); omega) (by omega) (by simp)]; exact HDK.out b hl)) hltd HD.out.lts.2 HD.out.lts.1 HN.out
  rw [hla2] at hC7
  have HC7 := Lib.hid hC7
  clear hC7 hla2 hltd
  refine skip_ (w1 := ?_) (by rfl) rfl ?_ ?_
  rotate_left
  · go_simp
    rfl
  refine hK.out _ _ ?_
  clear hK K
  clear z0 z1 z2 z3 z4 f0 f1 f2 f3 f4
  refine done_ (by kernel_rfl) ?_
  have hC := HC7.out
  obtain ⟨p0, p1_, p2, p3, p4⟩ := fm_cells hC.k3
  obtain ⟨z0, z1, z2, z3, z4⟩ := fm_cells hC.k2
  obtain ⟨f0, f1, f2, f3, f4⟩ := fm_free hC.k2
  have hn1 : w1.heap.size ≠ w.heap.size + 1 := by have := hC.h3; omega
  have hn2 : w.heap.size + 1 ≠ w1.heap.size := fun e => hn1 e.symm
  have hl9 : (x.f4.take i ++ y :: x.f4.drop (i + 1)).length = x.f4.length := by simp; omega
  obtain ⟨st1, st2, st3⟩ := st5 HC7.out.k2 (.int .i64 x.f0) (.string x.f1) (.int .i64 x.f2) (.slice J3 x.f3.length q3) (.slice (some ⟨gr, 0, none⟩) x.f4.length q4)
  have HN := Lib.hid (HC7.out.newF st2)
  have HB := Lib.hid (HC7.out.dr.put5 (b := w.heap.size + 1) (by omega) (.int .i64 x.f0) (.string x.f1) (.int .i64 x.f2) (.slice J3 x.f3.length q3) (.slice (some ⟨gr, 0, none⟩) x.f4.length q4))
  clear st1 st2 st3
  have HL9 := Lib.hid hl9
  clear hC hl9
  go_wp2_with fail
  refine bodyPost_ret (v := .agg #[.int .i64 x.f0, .string x.f1, .int .i64 x.f2, .slice J3 x.f3.length q3, .slice (some ⟨gr, 0, none⟩) x.f4.length q4]) (by simp [results, Tryd.results32, go_sem, z0, z1, z2, z3, z4]) rfl ?_
  exact ⟨_, _, rfl, HN.out, HB.out.is, HB.out.b, HB.out.kp⟩
set_option maxHeartbeats 8000000 in
set_option maxRecDepth 100000 in
theorem mut_stop {s : List Int} (x : Fm) (p p1 q : Nat) (c : Int) (y : Fm) (ht : x.tot ≤ 200000)
    (hp1 : (x.f4 = [] ∧ p1 = p) ∨ (x.f4 ≠ [] ∧ p1 = p + 1 ∧ ∃ v : Int, v ≤ 0 ∧ Ev (fun k => Q.spec_l15Rd_pick.f k s (p : Int) 2) (v, ((p + 1 : Nat) : Int)))) (hc : Ev (fun k => Q.spec_l15Rd_pick.f k s (p1 : Int) 14) (c, ((p1 + 1 : Nat) : Int)))
    (h0 : c = 0 → ∃ n : Int, Ev (fun k => Q.spec_l15Rd_num.f k s ((p1 + 1 : Nat) : Int) [0, 4, 1, 3]) (n, ((p1 + 2 : Nat) : Int)) ∧ y = ⟨n, x.f1, x.f2, x.f3, x.f4⟩ ∧ q = p1 + 2)
    (h1 : c = 1 → ∃ n : ByteArray, Ev (fun k => Q.spec_l15Rd_of.f k s ((p1 + 1 : Nat) : Int) badNms) (n, ((p1 + 2 : Nat) : Int)) ∧ y = ⟨x.f0, n, x.f2, x.f3, x.f4⟩ ∧ q = p1 + 2)
    (h2 : c = 2 → ∃ n : Int, Ev (fun k => Q.spec_l15Rd_num.f k s ((p1 + 1 : Nat) : Int) [1000, -1, 5]) (n, ((p1 + 2 : Nat) : Int)) ∧ y = ⟨x.f0, x.f1, n, x.f3, x.f4⟩ ∧ q = p1 + 2)
    (h3 : c = 3 → ∃ n : Int, Ev (fun k => Q.spec_l15Rd_num.f k s ((p1 + 1 : Nat) : Int) [0, 100, 1, 50]) (n, ((p1 + 2 : Nat) : Int)) ∧ y = ⟨x.f0, x.f1, x.f2, x.f3 ++ [n], x.f4⟩ ∧ q = p1 + 2)
    (h4 : c ≠ 0 → c ≠ 1 → c ≠ 2 → c ≠ 3 → y = ⟨x.f0, x.f1, x.f2, x.f3, x.f4⟩ ∧ q = p1 + 1) : MutOk s x p y q := by
  obtain ⟨kc, hkc⟩ := hc.rounds
  have HKC := Lib.hid hkc
  have HP1 := Lib.hid hp1
  have H0 := Lib.hid h0
  have H1 := Lib.hid h1
  have H2 := Lib.hid h2
  have HS3 := Lib.hid h3
  have H4 := Lib.hid h4
  clear hc hkc hp1 h0 h1 h2 h3 h4
  intro g A3 c3 A4 c4 w0 w hi hb hin
  have hmax := hin.g4.2.1
  have HI := Lib.hid hin
  have HD0 := Lib.hid (Dr.new hi hb)
  have HT := Lib.hid ht
  have hlen := len_totL x.f4
  have hxt := x.tot_eq
  have HLN := Lib.hid (show x.f4.length ≤ 200000 by omega)
  have HL3 := Lib.hid (show x.f3.length ≤ 200000 by omega)
  clear hin hi hb ht hlen hxt
  go_enter Tryd.func32, Tryd.ntmps32
  go_wp2_with fail
  refine (l1Copy_any x A3 c3 A4 c4 _ (HI.out.below (below_step (below_new _ _) (below_new _ _))) (by have := HT.out; omega)).mono ?_
  rintro e w1 ⟨u3, u4, rfl, hn, hb1⟩
  obtain ⟨J3, q3, J4, q4, rfl, rfl⟩ : ∃ J3 q3 J4 q4, u3 = .slice J3 x.f3.length q3 ∧ u4 = .slice J4 x.f4.length q4 := by
    obtain ⟨fk, hk2, _⟩ := hn
    obtain ⟨J3, q3, J4, q4, e3, e4, _⟩ := hk2.In
    exact ⟨J3, q3, J4, q4, e3, e4⟩
  obtain ⟨k1, k2, b1⟩ := two_new hb1
  rw [show ((w.alloc (.cells #[.int .i64 x.f0, .string x.f1, .int .i64 x.f2, .slice A3 x.f3.length c3, .slice A4 x.f4.length c4] 26)).alloc (.cells #[.int .i64 0, .string ⟨#[]⟩, .int .i64 0, .slice none 0 0, .slice none 0 0] 26)).heap.size = w.heap.size + 2 from by simp] at hn
  obtain ⟨inner, fp, hdp⟩ := Dp.start (HD0.out.later b1) k1 k2 hn
  have HDP := Lib.hid hdp
  clear hb1 hn k1 k2 b1 hdp
  go_upto_region 2 with fail
  (try simp only [Act.put, List.setIfInBounds_toArray, List.set_cons_zero, List.set_cons_succ])
  go_cut [17] (fun v17 wc => ∃ (inner : List Value) (fp : List Nat), v17 = .bool false ∧ Aside0 (Dp w0 w g s (p1 : Int) (.cells #[.int .i64 x.f0, .string x.f1, .int .i64 x.f2, .slice A3 x.f3.length c3, .slice A4 x.f4.length c4] 26) (.cells #[.int .i64 0, .string ⟨#[]⟩, .int .i64 0, .slice none 0 0, .slice none 0 0] 26) w1.heap.size x.f0 x.f1 x.f2 x.f3 x.f4 (.slice J3 x.f3.length q3) (.slice J4 x.f4.length q4) inner fp wc))
  case first =>
    rcases HP1.out with ⟨he, ep⟩ | ⟨he, ep, v, hv, h2⟩
    · have t1 : decide ((x.f4.length : Int) > 0) = false := decide_eq_false (by rw [he]; simp)
      have t1' : decide (0 < x.f4.length) = false := decide_eq_false (by rw [he]; simp)
      have HEP := Lib.hid ep
      clear he ep
      go_wp2_with fail
      go_meet
      case rel => exact ⟨inner, fp, rfl, ⟨by rw [HEP.out]; exact HDP.out⟩⟩
    · have t1 : decide ((x.f4.length : Int) > 0) = true := decide_eq_true (by have := List.length_pos_iff.2 he; omega)
      have t1' : decide (0 < x.f4.length) = true := decide_eq_true (List.length_pos_iff.2 he)
      have t2 : decide (v > 0) = false := decide_eq_false (by omega)
      have t2' : decide (0 < v) = false := decide_eq_false (by omega)
      obtain ⟨ka, hka⟩ := h2.rounds
      have HKA := Lib.hid hka
      have HEP := Lib.hid ep
      clear he ep hv h2 hka
      go_wp2_with fail
      refine (Q.spec_l15Rd_pick.calls ka g s _ 2 v _ w0 _ HDP.out.dr.is HDP.out.dr.b HKA.out).mono ?_
      rintro e w2 ⟨rfl, hi, hb, hk⟩
      have hw2 := Lib.hid (HDP.out.call hi hb hk)
      clear hi hb hk
      go_wp2_with fail
      go_meet
      case rel => exact ⟨inner, fp, rfl, ⟨by rw [HEP.out]; exact hw2.out⟩⟩
  case rest =>
    clear HDP inner fp
    obtain ⟨inner, fp, rfl, HDP⟩ := hcut
    go_wp2_with fail
    refine (Q.spec_l15Rd_pick.calls kc g s _ 14 c _ w0 _ HDP.out.dr.is HDP.out.dr.b HKC.out).mono ?_
    rintro e w3 ⟨rfl, hi, hb, hk⟩
    have hw3 := Lib.hid (HDP.out.call hi hb hk)
    clear hi hb hk
    by_cases c0 : c = 0
    · subst c0
      obtain ⟨n, hn, rfl, rfl⟩ := H0.out rfl
      obtain ⟨kn, hkn⟩ := hn.rounds
      have HKN := Lib.hid hkn
      clear hn hkn
      go_wp2_with fail
      have hblk := blk_new w3 (.cells #[.int .i64 0, .int .i64 4, .int .i64 1, .int .i64 3] 3 (0, 0))
      have HRB := Lib.hid (reads_block (l := [0, 4, 1, 3]) hblk (by simp) rfl)
      have HNE := Lib.hid (show w3.heap.size ≠ g from by have := hw3.out.dr.lt; have := hw3.out.lts; omega)
      clear hblk
      refine (Q.spec_l15Rd_num.calls kn g s _ (some ⟨w3.heap.size, 0, none⟩) _ [0, 4, 1, 3] n _ w0 _ (hw3.out.dr.later (below_new _ _)).is (hw3.out.dr.later (below_new _ _)).b HRB.out (Nat.le_refl _) (fun ad e _ => by cases e; exact HNE.out) HKN.out).mono ?_
      rintro e w4 ⟨rfl, hi, hb, hk⟩
      have hw4 := Lib.hid ((hw3.out.later (below_new _ _)).call hi hb hk)
      have HC7 := Lib.hid (hw4.out.put (j := 0) (u := .int .i64 n) (by simpa using blk_set hw4.out.k3 0 (.int .i64 n)))
      clear hi hb hk
      have hC := hw4.out
      obtain ⟨p0, p1_, p2, p3, p4⟩ := fm_cells hC.k3
      obtain ⟨o0, o1, o2, o3, o4⟩ := fm_free hC.k3
      obtain ⟨z0, z1, z2, z3, z4⟩ := fm_cells hC.k2
      obtain ⟨f0, f1, f2, f3, f4⟩ := fm_free hC.k2
      have hn1 : w1.heap.size ≠ w.heap.size + 1 := by have := hC.h3; omega
      have hn2 : w.heap.size + 1 ≠ w1.heap.size := fun e => hn1 e.symm
      clear hC
      obtain ⟨st1, st2, st3⟩ := st5 HC7.out.k2 (.int .i64 n) (.string x.f1) (.int .i64 x.f2) (.slice J3 x.f3.length q3) (.slice J4 x.f4.length q4)
      have HN := Lib.hid (HC7.out.newF st2)
      have HB := Lib.hid (HC7.out.dr.put5 (b := w.heap.size + 1) (by omega) (.int .i64 n) (.string x.f1) (.int .i64 x.f2) (.slice J3 x.f3.length q3) (.slice J4 x.f4.length q4))
      clear st1 st2 st3
      go_wp2_with fail
      refine bodyPost_ret (v := .agg #[.int .i64 n, .string x.f1, .int .i64 x.f2, .slice J3 x.f3.length q3, (.slice J4 x.f4.length q4)]) (by simp [results, Tryd.results32, go_sem, z0, z1, z2, z3, z4, hn1, hn2]) rfl ?_
      exact ⟨_, _, rfl, HN.out, HB.out.is, HB.out.b, HB.out.kp⟩
    by_cases c1 : c = 1
    · subst c1
      clear c0
      obtain ⟨n, hn, rfl, rfl⟩ := H1.out rfl
      obtain ⟨kn, hkn⟩ := hn.rounds
      have HKN := Lib.hid hkn
      clear hn hkn
      go_wp2_with fail
      have hblk := blk_new w3 (.cells #[.string ⟨#[]⟩, .string ⟨#[65]⟩, .string ⟨#[116, 111, 111, 108, 111, 110, 103, 97, 110, 97, 109, 101, 49]⟩, .string ⟨#[122]⟩, .string ⟨#[120, 32, 121]⟩] 9 (0, 0))
      have HRB := Lib.hid (reads_strs (l := badNms) hblk (by simp) rfl)
      have HNE := Lib.hid (show w3.heap.size ≠ g from by have := hw3.out.dr.lt; have := hw3.out.lts; omega)
      clear hblk
      refine (Q.spec_l15Rd_of.calls kn g s _ (some ⟨w3.heap.size, 0, none⟩) _ badNms n _ w0 _ (hw3.out.dr.later (below_new _ _)).is (hw3.out.dr.later (below_new _ _)).b HRB.out (Nat.le_refl _) (fun ad e _ => by cases e; exact HNE.out) HKN.out).mono ?_
      rintro e w4 ⟨rfl, hi, hb, hk⟩
      have hw4 := Lib.hid ((hw3.out.later (below_new _ _)).call hi hb hk)
      have HC7 := Lib.hid (hw4.out.put (j := 1) (u := .string n) (by simpa using blk_set hw4.out.k3 1 (.string n)))
      clear hi hb hk
      have hC := hw4.out
      obtain ⟨p0, p1_, p2, p3, p4⟩ := fm_cells hC.k3
      obtain ⟨o0, o1, o2, o3, o4⟩ := fm_free hC.k3
      obtain ⟨z0, z1, z2, z3, z4⟩ := fm_cells hC.k2
      obtain ⟨f0, f1, f2, f3, f4⟩ := fm_free hC.k2
      have hn1 : w1.heap.size ≠ w.heap.size + 1 := by have := hC.h3; omega
      have hn2 : w.heap.size + 1 ≠ w1.heap.size := fun e => hn1 e.symm
      clear hC
      obtain ⟨st1, st2, st3⟩ := st5 HC7.out.k2 (.int .i64 x.f0) (.string n) (.int .i64 x.f2) (.slice J3 x.f3.length q3) (.slice J4 x.f4.length q4)
      have HN := Lib.hid (HC7.out.newF st2)
      have HB := Lib.hid (HC7.out.dr.put5 (b := w.heap.size + 1) (by omega) (.int .i64 x.f0) (.string n) (.int .i64 x.f2) (.slice J3 x.f3.length q3) (.slice J4 x.f4.length q4))
      clear st1 st2 st3
      go_wp2_with fail
      refine bodyPost_ret (v := .agg #[.int .i64 x.f0, .string n, .int .i64 x.f2, .slice J3 x.f3.length q3, (.slice J4 x.f4.length q4)]) (by simp [results, Tryd.results32, go_sem, z0, z1, z2, z3, z4, hn1, hn2]) rfl ?_
      exact ⟨_, _, rfl, HN.out, HB.out.is, HB.out.b, HB.out.kp⟩
    by_cases c2 : c = 2
    · subst c2
      clear c0 c1
      obtain ⟨n, hn, rfl, rfl⟩ := H2.out rfl
      obtain ⟨kn, hkn⟩ := hn.rounds
      have HKN := Lib.hid hkn
      clear hn hkn
      go_wp2_with fail
      have hblk := blk_new w3 (.cells #[.int .i64 1000, .int .i64 (-1), .int .i64 5] 3 (0, 0))
      have HRB := Lib.hid (reads_block (l := [1000, -1, 5]) hblk (by simp) rfl)
      have HNE := Lib.hid (show w3.heap.size ≠ g from by have := hw3.out.dr.lt; have := hw3.out.lts; omega)
      clear hblk
      refine (Q.spec_l15Rd_num.calls kn g s _ (some ⟨w3.heap.size, 0, none⟩) _ [1000, -1, 5] n _ w0 _ (hw3.out.dr.later (below_new _ _)).is (hw3.out.dr.later (below_new _ _)).b HRB.out (Nat.le_refl _) (fun ad e _ => by cases e; exact HNE.out) HKN.out).mono ?_
      rintro e w4 ⟨rfl, hi, hb, hk⟩
      have hw4 := Lib.hid ((hw3.out.later (below_new _ _)).call hi hb hk)
      have HC7 := Lib.hid (hw4.out.put (j := 2) (u := .int .i64 n) (by simpa using blk_set hw4.out.k3 2 (.int .i64 n)))
      clear hi hb hk
      have hC := hw4.out
      obtain ⟨p0, p1_, p2, p3, p4⟩ := fm_cells hC.k3
      obtain ⟨o0, o1, o2, o3, o4⟩ := fm_free hC.k3
      obtain ⟨z0, z1, z2, z3, z4⟩ := fm_cells hC.k2
      obtain ⟨f0, f1, f2, f3, f4⟩ := fm_free hC.k2
      have hn1 : w1.heap.size ≠ w.heap.size + 1 := by have := hC.h3; omega
      have hn2 : w.heap.size + 1 ≠ w1.heap.size := fun e => hn1 e.symm
      clear hC
      obtain ⟨st1, st2, st3⟩ := st5 HC7.out.k2 (.int .i64 x.f0) (.string x.f1) (.int .i64 n) (.slice J3 x.f3.length q3) (.slice J4 x.f4.length q4)
      have HN := Lib.hid (HC7.out.newF st2)
      have HB := Lib.hid (HC7.out.dr.put5 (b := w.heap.size + 1) (by omega) (.int .i64 x.f0) (.string x.f1) (.int .i64 n) (.slice J3 x.f3.length q3) (.slice J4 x.f4.length q4))
      clear st1 st2 st3
      go_wp2_with fail
      refine bodyPost_ret (v := .agg #[.int .i64 x.f0, .string x.f1, .int .i64 n, .slice J3 x.f3.length q3, (.slice J4 x.f4.length q4)]) (by simp [results, Tryd.results32, go_sem, z0, z1, z2, z3, z4, hn1, hn2]) rfl ?_
      exact ⟨_, _, rfl, HN.out, HB.out.is, HB.out.b, HB.out.kp⟩
    by_cases c3_ : c = 3
    · subst c3_
      clear c0 c1 c2
      obtain ⟨n, hn, rfl, rfl⟩ := HS3.out rfl
      obtain ⟨kn, hkn⟩ := hn.rounds
      have HKN := Lib.hid hkn
      clear hn hkn
      have hp3 := (fm_cells hw3.out.k3).2.2.2.1
      go_wp2_with fail
      have HD := Lib.hid (hw3.out.later (below_drew (Below.refl _ _)))
      refine start_ (n := 9) (S := (fun W : World => W.cell? ⟨w1.heap.size, 3, none⟩ = some (.slice J3 x.f3.length q3))) (ds := [8]) #[false, false, false, false, false, false, false, false, false] (by kernel_rfl) rfl rfl (fm_cells HD.out.k3).2.2.2.1 (fun hHeld => ?_)
      clear hp3
      generalize w3.drew = wd at HD hHeld ⊢
      refine pure_ (i := 0) (N := some 57) (v := ?_) (a' := ?_) #[true, false, false, false, false, false, false, false, false] rfl rfl (by kernel_rfl) (fun _ _ _ h => h) (Or.inl ⟨by rfl, ?_⟩) ?_ ?_
      rotate_left
      · intro w'
        go_simp
        with_reducible rfl
      rotate_left
      · simp only [Act.put, List.setIfInBounds_toArray, List.set_cons_zero, List.set_cons_succ, i64_w, i32_w]
        rfl
      refine pure_ (i := 2) (N := some 59) (v := ?_) (a' := ?_) #[true, false, true, false, false, false, false, false, false] rfl rfl (by kernel_rfl) (fun _ _ _ h => h) (Or.inl ⟨by rfl, ?_⟩) ?_ ?_
      rotate_left
      · intro w'
        go_simp
        with_reducible rfl
      rotate_left
      · simp only [Act.put, List.setIfInBounds_toArray, List.set_cons_zero, List.set_cons_succ, i64_w, i32_w]
        rfl
      refine take_ (i := 1) (N := some 58) (v := ?_) (a' := ?_) #[true, true, true, false, false, false, false, false, false] rfl rfl (by kernel_rfl) (fun _ _ _ h => h) (Or.inl ⟨by rfl, ?_⟩) hHeld ?_ ?_
      rotate_left
      · rintro w' s0
        go_simp
        with_reducible rfl
      rotate_left
      · simp only [Act.put, List.setIfInBounds_toArray, List.set_cons_zero, List.set_cons_succ, i64_w, i32_w]
        rfl
      refine one_ (i := 3) (N := some 60) #[true, true, true, true, false, false, false, false, false] rfl rfl (by kernel_rfl) (by decide) (fun K hK => ?_)
      refine value_ (w1 := ?_) (v := ?_) (by rfl) rfl ?_ ?_
      rotate_left 2
      · go_simp
        constructor
        · rfl
        · rfl
      refine hK.out _ _ (fm_cells (HD.out.later (below_new _ _)).k3).2.2.2.1 (fun hHeld => ?_)
      clear hK K
      refine norm_ (a' := ?_) ?_ ?_
      rotate_left
      · show Act.put _ (some 60) _ = _
        simp only [Act.put, List.setIfInBounds_toArray, List.set_cons_zero, List.set_cons_succ, i64_w, i32_w]
        rfl
      have hblk := blk_new wd (.cells #[.int .i64 0, .int .i64 100, .int .i64 1, .int .i64 50] 3 (0, 0))
      have HRB := Lib.hid (reads_block (l := [0, 100, 1, 50]) hblk (by simp) rfl)
      have HNE := Lib.hid (show wd.heap.size ≠ g from by have := HD.out.dr.lt; have := HD.out.lts; omega)
      clear hblk
      refine one_ (i := 4) (N := some 61) #[true, true, true, true, true, false, false, false, false] rfl rfl (by kernel_rfl) (by decide) (fun K hK => ?_)
      refine goes_ Tryd.func62 (by kernel_rfl) rfl #[.pointer (some ⟨g, 0, none⟩), .slice (some ⟨wd.heap.size, 0, none⟩) 4 4] (by rfl) rfl rfl (by (try simp only [List.map_toArray, List.map_cons, List.map_nil]); first | done | rfl) ?_
      refine (Q.spec_l15Rd_num.calls kn g s _ (some ⟨wd.heap.size, 0, none⟩) _ [0, 100, 1, 50] n _ w0 _ (HD.out.dr.later (below_new _ _)).is (HD.out.dr.later (below_new _ _)).b HRB.out (Nat.le_refl _) (fun ad e _ => by cases e; exact HNE.out) HKN.out).mono ?_
      rintro e w4 ⟨rfl, hi, hb, hk⟩
      refine ⟨_, rfl, ?_⟩
      have hw4 := Lib.hid ((HD.out.later (below_new _ _)).call hi hb hk)
      clear hi hb hk
      refine hK.out _ _ (fm_cells hw4.out.k3).2.2.2.1 (fun hHeld => ?_)
      clear hK K
      refine norm_ (a' := ?_) ?_ ?_
      rotate_left
      · show Act.put _ (some 61) _ = _
        simp only [Act.put, List.setIfInBounds_toArray, List.set_cons_zero, List.set_cons_succ, i64_w, i32_w]
        rfl
      refine one_ (i := 5) (N := some 62) #[true, true, true, true, true, true, false, false, false] rfl rfl (by kernel_rfl) (by decide) (fun K hK => ?_)
      refine value_ (w1 := ?_) (v := ?_) (by rfl) rfl ?_ ?_
      rotate_left 2
      · go_simp
        constructor
        · rfl
        · rfl
      refine hK.out _ _ (fm_cells (hw4.out.later (below_new _ _)).k3).2.2.2.1 (fun hHeld => ?_)
      clear hK K
      refine norm_ (a' := ?_) ?_ ?_
      rotate_left
      · show Act.put _ (some 62) _ = _
        simp only [Act.put, List.setIfInBounds_toArray, List.set_cons_zero, List.set_cons_succ, i64_w, i32_w]
        rfl
      refine one_ (i := 6) (N := some 63) #[true, true, true, true, true, true, true, false, false] rfl rfl (by kernel_rfl) (by decide) (fun K hK => ?_)
      refine step_append_cells (w0 := w0) (W := w4) w0.heap.size (by rfl) (.tmp 58) (.tmp 62) 23 3 (.int .i64 0) 1 8 rfl Tryd.underlying23 infoI rfl (by decide) (by omega) (.slice J3 x.f3.length q3) x.f3.length (encI x.f3) [.int .i64 n] rfl rfl rfl (by simp [Value.oneCell']) (own_base_ hw4.out.o3 (fun b hb => by have := (hw4.out.own3 b hb).1; have := keep_size hw4.out.dr.kp; have := HD0.out.b.size; omega)) hw4.out.dr.b hw4.out.dr.b.size (by have := HL3.out; omega) ?_
      intro v' w8 ho hb8 hg8 hat8
      have ho8 : w8.ownsRow 0 3 1 v' (x.f3 ++ [n]).length (encI (x.f3 ++ [n])) := by
        rw [List.length_append, show encI (x.f3 ++ [n]) = encI x.f3 ++ [.int .i64 n] from by simp [encs]]
        exact own_weaken ho (Nat.zero_le _)
      have hdp8 := hw4.out.scopes hg8 (hw4.out.own3) ho8 (fun b hb => by
        rcases hat8 with h | ⟨c, h, hc⟩
        · exact hw4.out.own3 b (h ▸ hb)
        · rw [h] at hb; cases hb; exact hw4.out.fresh hc)
      have hk38 := (hg8.block _ hw4.out.lts.2 (fun e => (hw4.out.own3 _ e.symm).2.1 rfl)).trans hw4.out.k3
      have hv' : ∃ A c, v' = .slice A (x.f3.length + 1) c := by
        rcases ho with ⟨_, ⟨rfl, h0⟩ | ⟨g, cap, cur, rfl, _⟩⟩
        · exact absurd h0 (by omega)
        · exact ⟨_, _, rfl⟩
      obtain ⟨A', c', rfl⟩ := hv'
      have HC7 := Lib.hid hdp8
      have HK38 := Lib.hid hk38
      clear ho hb8 hg8 hat8 ho8 hdp8 hk38
      refine hK.out _ _ (fm_cells HK38.out).2.2.2.1 (fun hHeld => ?_)
      clear hK K
      refine norm_ (a' := ?_) ?_ ?_
      rotate_left
      · show Act.put _ (some 63) _ = _
        simp only [Act.put, List.setIfInBounds_toArray, List.set_cons_zero, List.set_cons_succ, i64_w, i32_w]
        rfl
      refine pure_ (i := 7) (N := some 64) (v := ?_) (a' := ?_) #[true, true, true, true, true, true, true, true, false] rfl rfl (by kernel_rfl) (fun _ _ _ h => h) (Or.inl ⟨by rfl, ?_⟩) ?_ ?_
      rotate_left
      · intro w'
        go_simp
        with_reducible rfl
      rotate_left
      · simp only [Act.put, List.setIfInBounds_toArray, List.set_cons_zero, List.set_cons_succ, i64_w, i32_w]
        rfl
      refine last_ (i := 8) (N := none) #[true, true, true, true, true, true, true, true, true] rfl rfl (by kernel_rfl) (by decide) (fun K hK => ?_)
      have z3 := (fm_cells HK38.out).2.2.2.1
      have f3 := (fm_free HK38.out).2.2.2.1
      refine skip_ (w1 := ?_) (by rfl) rfl ?_ ?_
      rotate_left
      · go_simp
        rfl
      refine hK.out _ _ ?_
      clear hK K
      clear z3 f3
      refine done_ (by kernel_rfl) ?_
      have hl9 : (x.f3 ++ [n]).length = x.f3.length + 1 := by simp
      have hC := HC7.out
      obtain ⟨p0, p1_, p2, p3, p4⟩ := fm_cells hC.k3
      obtain ⟨o0, o1, o2, o3, o4⟩ := fm_free hC.k3
      obtain ⟨z0, z1, z2, z3, z4⟩ := fm_cells hC.k2
      obtain ⟨f0, f1, f2, f3, f4⟩ := fm_free hC.k2
      have hn1 : w1.heap.size ≠ w.heap.size + 1 := by have := hC.h3; omega
      have hn2 : w.heap.size + 1 ≠ w1.heap.size := fun e => hn1 e.symm
      clear hC
      obtain ⟨st1, st2, st3⟩ := st5 HC7.out.k2 (.int .i64 x.f0) (.string x.f1) (.int .i64 x.f2) (.slice A' (x.f3.length + 1) c') (.slice J4 x.f4.length q4)
      have HN := Lib.hid (HC7.out.newF st2)
      have HB := Lib.hid (HC7.out.dr.put5 (b := w.heap.size + 1) (by omega) (.int .i64 x.f0) (.string x.f1) (.int .i64 x.f2) (.slice A' (x.f3.length + 1) c') (.slice J4 x.f4.length q4))
      clear st1 st2 st3
      have HL9 := Lib.hid hl9
      clear hl9
      go_wp2_with fail
      refine bodyPost_ret (v := .agg #[.int .i64 x.f0, .string x.f1, .int .i64 x.f2, .slice A' (x.f3.length + 1) c', .slice J4 x.f4.length q4]) (by simp [results, Tryd.results32, go_sem, z0, z1, z2, z3, z4]) rfl ?_
      exact ⟨_, _, rfl, HN.out, HB.out.is, HB.out.b, HB.out.kp⟩
    · obtain ⟨rfl, rfl⟩ := H4.out c0 c1 c2 c3_
      have e0 : (c == 0) = false := beq_eq_false_iff_ne.mpr c0
      have e1 : (c == 1) = false := beq_eq_false_iff_ne.mpr c1
      have e2 : (c == 2) = false := beq_eq_false_iff_ne.mpr c2
      have e3 : (c == 3) = false := beq_eq_false_iff_ne.mpr c3_
      clear c0 c1 c2 c3_
      have hC := hw3.out
      obtain ⟨p0, p1_, p2, p3, p4⟩ := fm_cells hC.k3
      obtain ⟨o0, o1, o2, o3, o4⟩ := fm_free hC.k3
      obtain ⟨z0, z1, z2, z3, z4⟩ := fm_cells hC.k2
      obtain ⟨f0, f1, f2, f3, f4⟩ := fm_free hC.k2
      have hn1 : w1.heap.size ≠ w.heap.size + 1 := by have := hC.h3; omega
      have hn2 : w.heap.size + 1 ≠ w1.heap.size := fun e => hn1 e.symm
      clear hC
      obtain ⟨st1, st2, st3⟩ := st5 hw3.out.k2 (.int .i64 x.f0) (.string x.f1) (.int .i64 x.f2) (.slice J3 x.f3.length q3) (.slice J4 x.f4.length q4)
      have HN := Lib.hid (hw3.out.newF st2)
      have HB := Lib.hid (hw3.out.dr.put5 (b := w.heap.size + 1) (by omega) (.int .i64 x.f0) (.string x.f1) (.int .i64 x.f2) (.slice J3 x.f3.length q3) (.slice J4 x.f4.length q4))
      clear st1 st2 st3
      go_wp2_with fail
      refine bodyPost_ret (v := .agg #[.int .i64 x.f0, .string x.f1, .int .i64 x.f2, .slice J3 x.f3.length q3, (.slice J4 x.f4.length q4)]) (by simp [results, Tryd.results32, go_sem, z0, z1, z2, z3, z4]) rfl ?_
      exact ⟨_, _, rfl, HN.out, HB.out.is, HB.out.b, HB.out.kp⟩
end Go.Proofs.YteeepenncddnjaaDoor
end
section
namespace Go.Proofs.YteeepenncddnjaaDoor
set_option linter.unusedVariables false
def Bn : Nat → Nat
  | 0 => 13
  | d + 1 => 13 + 3 * (Bn d + 1)
theorem Bn_le {d : Nat} (h : d ≤ 4) : Bn d ≤ 1693 := by
  rcases (show d = 0 ∨ d = 1 ∨ d = 2 ∨ d = 3 ∨ d = 4 by omega) with rfl | rfl | rfl | rfl | rfl <;> decide
theorem Bn_pos (d : Nat) : 13 ≤ Bn d := by
  cases d <;> simp [Bn]
theorem set_totL (l : List Fm) (i : Nat) (h : i < l.length) (y : Fm) : totL (l.set i y) + l[i].tot = totL l + y.tot := by
  induction l generalizing i with
  | nil => simp at h
  | cons a l ih =>
    cases i with
    | zero => simp [totL]; omega
    | succ i =>
      have := ih i (by simpa using h)
      simp only [List.set_cons_succ, totL, List.getElem_cons_succ]
      omega
theorem set_sizes (l : List Fm) (i : Nat) (h : i < l.length) (y : Fm) : sizes (l.set i y) + l[i].size = sizes l + y.size := by
  induction l generalizing i with
  | nil => simp at h
  | cons a l ih =>
    cases i with
    | zero => simp [sizes]; omega
    | succ i =>
      have := ih i (by simpa using h)
      simp only [List.set_cons_succ, sizes, List.getElem_cons_succ]
      omega
abbrev nms : List ByteArray := [(⟨#[97]⟩ : ByteArray), (⟨#[98]⟩ : ByteArray), (⟨#[120]⟩ : ByteArray), (⟨#[121]⟩ : ByteArray), (⟨#[102]⟩ : ByteArray), (⟨#[105, 102]⟩ : ByteArray), (⟨#[108, 101, 116]⟩ : ByteArray), (⟨#[43]⟩ : ByteArray)]
theorem names_small : ∀ v, v ∈ nms → v.size ≤ 13 := by
  intro v hv
  simp only [List.mem_cons, List.not_mem_nil, or_false] at hv
  rcases hv with h | h | h | h | h | h | h | h <;> (rw [h]; decide)
end Go.Proofs.YteeepenncddnjaaDoor
end
section
namespace Go.Proofs.YteeepenncddnjaaDoor
open Go.RowKit Go.Proofs.YteeepenncddnjaaDoorW.PrintWords
set_option linter.unusedVariables false
set_option linter.unusedSimpArgs false
theorem badNms_small : ∀ v, v ∈ badNms → v.size ≤ 13 := by
  intro v hv
  simp only [badNms, List.mem_cons, List.not_mem_nil, or_false] at hv
  rcases hv with h | h | h | h | h <;> (rw [h]; decide)
theorem mutate_ex {s : List Int} (hs : Bts s) : ∀ x : Fm, x.tot ≤ 200000 → ∀ p : Nat, p + 3 * x.size ≤ 1000000 → ∃ (y : Fm) (q : Nat), q ≤ p + 3 * x.size ∧ y.tot ≤ x.tot + 14 ∧ y.size = x.size ∧ MutOk s x p y q := by
  intro x
  induction x using Fm.ind with
  | h x ih =>
  intro ht p hp
  have hsz := x.size_eq
  have htt := x.tot_eq
  have leaf : ∀ p1 : Nat, p1 + 2 ≤ 1000000 → ((x.f4 = [] ∧ p1 = p) ∨ (x.f4 ≠ [] ∧ p1 = p + 1 ∧ ∃ v : Int, v ≤ 0 ∧ Ev (fun k => Q.spec_l15Rd_pick.f k s (p : Int) 2) (v, ((p + 1 : Nat) : Int)))) → ∃ (y : Fm) (q : Nat), q ≤ p1 + 2 ∧ y.tot ≤ x.tot + 14 ∧ y.size = x.size ∧ MutOk s x p y q := by
    intro p1 hp1 hpre
    obtain ⟨c, hc, e1⟩ := ev_pick hs p1 (by omega) 14 (by omega)
    obtain ⟨n0, _, e2⟩ := ev_num hs (p1 + 1) (by omega) [0, 4, 1, 3] (by simp) (by simp)
    obtain ⟨n1, hn1, e3⟩ := ev_of hs (p1 + 1) (by omega) badNms (by simp) (by simp)
    obtain ⟨n2, _, e4⟩ := ev_num hs (p1 + 1) (by omega) [1000, -1, 5] (by simp) (by simp)
    obtain ⟨n3, _, e5⟩ := ev_num hs (p1 + 1) (by omega) [0, 100, 1, 50] (by simp) (by simp)
    have hb := badNms_small n1 hn1
    by_cases c0 : c = 0
    · exact ⟨⟨n0, x.f1, x.f2, x.f3, x.f4⟩, p1 + 2, by omega, by rw [Fm.tot_eq]; dsimp only; omega, by rw [Fm.size_eq]; dsimp only; omega, mut_stop x p p1 _ c _ ht hpre e1 (fun _ => ⟨n0, e2, rfl, rfl⟩) (fun h => by omega) (fun h => by omega) (fun h => by omega) (fun h => absurd c0 h)⟩
    by_cases c1 : c = 1
    · exact ⟨⟨x.f0, n1, x.f2, x.f3, x.f4⟩, p1 + 2, by omega, by rw [Fm.tot_eq]; dsimp only; omega, by rw [Fm.size_eq]; dsimp only; omega, mut_stop x p p1 _ c _ ht hpre e1 (fun h => absurd h c0) (fun _ => ⟨n1, e3, rfl, rfl⟩) (fun h => by omega) (fun h => by omega) (fun _ h => absurd c1 h)⟩
    by_cases c2 : c = 2
    · exact ⟨⟨x.f0, x.f1, n2, x.f3, x.f4⟩, p1 + 2, by omega, by rw [Fm.tot_eq]; dsimp only; omega, by rw [Fm.size_eq]; dsimp only; omega, mut_stop x p p1 _ c _ ht hpre e1 (fun h => absurd h c0) (fun h => absurd h c1) (fun _ => ⟨n2, e4, rfl, rfl⟩) (fun h => by omega) (fun _ _ h => absurd c2 h)⟩
    by_cases c3 : c = 3
    · exact ⟨⟨x.f0, x.f1, x.f2, x.f3 ++ [n3], x.f4⟩, p1 + 2, by omega, by rw [Fm.tot_eq]; simp only [List.length_append, List.length_cons, List.length_nil]; omega, by rw [Fm.size_eq]; dsimp only; omega, mut_stop x p p1 _ c _ ht hpre e1 (fun h => absurd h c0) (fun h => absurd h c1) (fun h => absurd h c2) (fun _ => ⟨n3, e5, rfl, rfl⟩) (fun _ _ _ h => absurd c3 h)⟩
    · exact ⟨⟨x.f0, x.f1, x.f2, x.f3, x.f4⟩, p1 + 1, by omega, by rw [Fm.tot_eq]; dsimp only; omega, by rw [Fm.size_eq]; dsimp only; omega, mut_stop x p p1 _ c _ ht hpre e1 (fun h => absurd h c0) (fun h => absurd h c1) (fun h => absurd h c2) (fun h => absurd h c3) (fun _ _ _ _ => ⟨rfl, rfl⟩)⟩
  by_cases h0 : x.f4 = []
  · obtain ⟨y, q, g1, g2, g3, g4⟩ := leaf p (by omega) (.inl ⟨h0, rfl⟩)
    exact ⟨y, q, by omega, g2, g3, g4⟩
  · obtain ⟨v, hv, e1⟩ := ev_pick hs p (by omega) 2 (by omega)
    have hl := List.length_pos_iff.2 h0
    have hone : 1 ≤ sizes x.f4 := by
      have := sizes_mem (List.getElem_mem hl)
      have := (x.f4[0]'hl).size_eq
      omega
    by_cases hz : 0 < v
    · obtain ⟨n, hn, e2⟩ := ev_pick hs (p + 1) (by omega) (x.f4.length : Int) (by have := len_totL x.f4; omega)
      obtain ⟨m, rfl⟩ := Int.eq_ofNat_of_zero_le (hn (by omega)).1
      have hm : m < x.f4.length := by have := (hn (by omega)).2; omega
      have hk := totL_mem (List.getElem_mem hm)
      have hsm := sizes_mem (List.getElem_mem hm)
      obtain ⟨y, q, g1, g2, g3, g4⟩ := ih _ (List.getElem_mem hm) (by omega) (p + 2) (by omega)
      have hst := set_totL x.f4 m hm y
      have hss := set_sizes x.f4 m hm y
      have hse : x.f4.set m y = x.f4.take m ++ y :: x.f4.drop (m + 1) := List.set_eq_take_append_cons_drop.trans (by rw [if_pos hm])
      rw [hse] at hst hss
      exact ⟨⟨x.f0, x.f1, x.f2, x.f3, x.f4.take m ++ y :: x.f4.drop (m + 1)⟩, q, by omega, by rw [Fm.tot_eq]; dsimp only; omega, by rw [Fm.size_eq]; dsimp only; omega, mut_rec x p q v m y ht hm hz e1 e2 g4⟩
    · obtain ⟨y, q, g1, g2, g3, g4⟩ := leaf (p + 1) (by omega) (.inr ⟨h0, rfl, v, by omega, e1⟩)
      exact ⟨y, q, by omega, g2, g3, g4⟩
end Go.Proofs.YteeepenncddnjaaDoor
end
section
namespace Go.Proofs.YteeepenncddnjaaDoor.Q
open Go.RowKit Go.Proofs.YteeepenncddnjaaDoorW.PrintWords Go.Proofs.YteeepenncddnjaaDoorW.PrintLast Go.Proofs.YteeepenncddnjaaDoorW.PrintMore
attribute [local go_sem] max2_int min2_int max_two min_two max_three min_three max_four min_four   -- for this text's walks alone
set_option linter.unusedVariables false
set_option linter.unusedSimpArgs false

mutual
def spec_l1Some.j0 : Nat → Int → Bool → List Int → Int → Option (Int × ByteArray × Int × List Int × (List (S26)) × Int)
  | 0, _, _, _, _ => none
  | k + 1, x1, x13, x1000, x1001 => if x13 = true then ((spec_l15Rd_pick.f k x1000 x1001 4).bind fun bt216 => (if bt216.1 = 0 then ((spec_l15Rd_num.f k x1000 bt216.2 (([0, 1, 2, 7, 42, 999] : List Int))).bind fun bt221 => (some (2, (⟨#[]⟩ : ByteArray), bt221.1, ([] : List Int), ([] : List (S26)), bt221.2))) else ((spec_l15Rd_of.f k x1000 bt216.2 (([(⟨#[97]⟩ : ByteArray), (⟨#[98]⟩ : ByteArray), (⟨#[120]⟩ : ByteArray), (⟨#[121]⟩ : ByteArray), (⟨#[102]⟩ : ByteArray), (⟨#[105, 102]⟩ : ByteArray), (⟨#[108, 101, 116]⟩ : ByteArray), (⟨#[43]⟩ : ByteArray)] : List ByteArray))).bind fun bt226 => ((spec_l1Name.f bt226.1).bind fun bt228 => (some (bt228.1, bt228.2.1, bt228.2.2.1, bt228.2.2.2.1, bt228.2.2.2.2, bt226.2)))))) else ((spec_l15Rd_pick.f k x1000 x1001 4).bind fun bt238 => (spec_l1Some.l0 k x1 bt238.1 x1000 bt238.2 3 (⟨#[]⟩ : ByteArray) 0 ([] : List (S26))))
def spec_l1Some.l0 : Nat → Int → Int → List Int → Int → Int → ByteArray → Int → List (S26) → Option (Int × ByteArray × Int × List Int × (List (S26)) × Int)
  | 0, _, _, _, _, _, _, _, _ => none
  | k + 1, x1, x6, x1000, x1001, x238000, x238001, x238002, x238004 => if x6 > 0 then ((spec_l1Some.f k x1000 x1001 (wrap64 (x1 - 1))).bind fun bt240 => (if x238004.length < 1759218604441 then (spec_l1Some.l0 k x1 (wrap64 (x6 - 1)) x1000 bt240.2.2.2.2.2 x238000 x238001 x238002 (x238004 ++ [(⟨bt240.1, bt240.2.1, bt240.2.2.1, bt240.2.2.2.1, bt240.2.2.2.2.1⟩ : S26)])) else (none))) else (some (x238000, x238001, x238002, ([] : List Int), x238004, x1001))
def spec_l1Some.f : Nat → List Int → Int → Int → Option (Int × ByteArray × Int × List Int × (List (S26)) × Int)
  | 0, _, _, _ => none
  | k + 1, s0_0, s0_1, a1 => if a1 = 0 then (spec_l1Some.j0 k a1 true s0_0 s0_1) else ((spec_l15Rd_pick.f k s0_0 s0_1 3).bind fun bt214 => (spec_l1Some.j0 k a1 (bt214.1 == 0) s0_0 bt214.2))
end
theorem spec_l1Some.mono_l : ∀ k, (∀ y0 y1 y2, LeO (spec_l1Some.f k y0 y1 y2) (spec_l1Some.f (k + 1) y0 y1 y2)) ∧ (∀ y0 y1 y2 y3, LeO (spec_l1Some.j0 k y0 y1 y2 y3) (spec_l1Some.j0 (k + 1) y0 y1 y2 y3)) ∧ (∀ y0 y1 y2 y3 y4 y5 y6 y7, LeO (spec_l1Some.l0 k y0 y1 y2 y3 y4 y5 y6 y7) (spec_l1Some.l0 (k + 1) y0 y1 y2 y3 y4 y5 y6 y7))
  | 0 => ⟨fun _ _ _ r h => by simp [spec_l1Some.f] at h, fun _ _ _ _ r h => by simp [spec_l1Some.j0] at h, fun _ _ _ _ _ _ _ _ r h => by simp [spec_l1Some.l0] at h⟩
  | k + 1 => by
    obtain ⟨ih0, ih1, ih2⟩ := spec_l1Some.mono_l k
    refine ⟨?_, ?_, ?_⟩
    · intro y0 y1 y2
      unfold spec_l1Some.f
      repeat' first
      | (with_reducible exact ih0 _ _ _)
      | (with_reducible exact ih1 _ _ _ _)
      | (with_reducible exact ih2 _ _ _ _ _ _ _ _)
      | (with_reducible exact spec_l15Rd_num.mono _ _ _ _)
      | (with_reducible exact spec_l15Rd_of.mono _ _ _ _)
      | (with_reducible exact spec_l15Rd_pick.mono _ _ _ _)
      | (with_reducible exact LeO.refl _)
      | (with_reducible exact LeO.none _)
      | (with_reducible refine LeO.ite ?_ ?_)
      | (with_reducible refine LeO.bind ?_ (fun _ => ?_))
      | exact ih0 _ _ _
      | exact ih1 _ _ _ _
      | exact ih2 _ _ _ _ _ _ _ _
      | exact spec_l15Rd_num.mono _ _ _ _
      | exact spec_l15Rd_of.mono _ _ _ _
      | exact spec_l15Rd_pick.mono _ _ _ _
      | exact LeO.none _
      | refine LeO.ite ?_ ?_
      | refine LeO.bind ?_ (fun _ => ?_)
    · intro y0 y1 y2 y3
      unfold spec_l1Some.j0
      repeat' first
      | (with_reducible exact ih0 _ _ _)
      | (with_reducible exact ih1 _ _ _ _)
      | (with_reducible exact ih2 _ _ _ _ _ _ _ _)
      | (with_reducible exact spec_l15Rd_num.mono _ _ _ _)
      | (with_reducible exact spec_l15Rd_of.mono _ _ _ _)
      | (with_reducible exact spec_l15Rd_pick.mono _ _ _ _)
      | (with_reducible exact LeO.refl _)
      | (with_reducible exact LeO.none _)
      | (with_reducible refine LeO.ite ?_ ?_)
      | (with_reducible refine LeO.bind ?_ (fun _ => ?_))
      | exact ih0 _ _ _
      | exact ih1 _ _ _ _
      | exact ih2 _ _ _ _ _ _ _ _
      | exact spec_l15Rd_num.mono _ _ _ _
      | exact spec_l15Rd_of.mono _ _ _ _
      | exact spec_l15Rd_pick.mono _ _ _ _
      | exact LeO.none _
      | refine LeO.ite ?_ ?_
      | refine LeO.bind ?_ (fun _ => ?_)
    · intro y0 y1 y2 y3 y4 y5 y6 y7
      unfold spec_l1Some.l0
      repeat' first
      | (with_reducible exact ih0 _ _ _)
      | (with_reducible exact ih1 _ _ _ _)
      | (with_reducible exact ih2 _ _ _ _ _ _ _ _)
      | (with_reducible exact spec_l15Rd_num.mono _ _ _ _)
      | (with_reducible exact spec_l15Rd_of.mono _ _ _ _)
      | (with_reducible exact spec_l15Rd_pick.mono _ _ _ _)
      | (with_reducible exact LeO.refl _)
      | (with_reducible exact LeO.none _)
      | (with_reducible refine LeO.ite ?_ ?_)
      | (with_reducible refine LeO.bind ?_ (fun _ => ?_))
      | exact ih0 _ _ _
      | exact ih1 _ _ _ _
      | exact ih2 _ _ _ _ _ _ _ _
      | exact spec_l15Rd_num.mono _ _ _ _
      | exact spec_l15Rd_of.mono _ _ _ _
      | exact spec_l15Rd_pick.mono _ _ _ _
      | exact LeO.none _
      | refine LeO.ite ?_ ?_
      | refine LeO.bind ?_ (fun _ => ?_)
theorem spec_l1Some.mono : ∀ a0 a1 a2 k, LeO (spec_l1Some.f k a0 a1 a2) (spec_l1Some.f (k + 1) a0 a1 a2) := by
  intro a0 a1 a2 k
  obtain ⟨ih0, ih1, ih2⟩ := spec_l1Some.mono_l k
  exact ih0 a0 a1 a2
def spec_l1Some.T9 : Bool × List (List Nat × List Nat) := (true, [([], []), ([0], [0]), ([], []), ([], []), ([3], [3]), ([2, 4], [2, 4]), ([5], [5]), ([1, 6, 5], [1, 6]), ([0, 1, 2, 3, 4, 5, 6, 7], []), ([8, 7, 7, 0, 1, 2, 3, 4, 5, 6, 7], [7, 8])])
def spec_l1Some.B9 : List Nat := [0, 1, 0, 0, 8, 28, 60, 127, 255, 511]
theorem spec_l1Some.tab9 : rtab .any (opsOf Tryd.f30 9) = spec_l1Some.T9 := by kernel_rfl
theorem spec_l1Some.bits9 : waitsOk spec_l1Some.T9.2 spec_l1Some.B9 = true := by kernel_rfl
set_option maxHeartbeats 8000000 in
set_option maxRecDepth 100000 in
theorem spec_l1Some.calls (k : Nat) : ∀ (g : Nat) (s0_0 : List Int) (s0_1 : Int) (a1 : Int) (r1 : Int) (r2 : ByteArray) (r3 : Int) (r4 : List Int) (r5 : List (S26)) (r6 : Int) (w0 w : World) (hI : IsS78 w0 w g s0_0 s0_1) (hB : Below w0.heap.size w0 w) (h : spec_l1Some.f k s0_0 s0_1 a1 = some (r1, r2, r3, r4, r5, r6)),
    Calls Tryd.prog 30 #[.pointer (some ⟨g, 0, none⟩), .int .i64 a1] w fun e w' => ∃ v3_ v4_ : Value, e = .returned (.agg #[.int .i64 r1, .string r2, .int .i64 r3, v3_, v4_]) ∧ Kd.R (Kd.int .i64) 3 w' w.heap.size (fun _ => True) v3_ r4 ∧ Kd.R k26 26 w' w.heap.size (fun k_ => some k_ ≠ (v3_ : Value).ownBlock) v4_ r5 ∧ IsS78 w0 w' g s0_0 r6 ∧ Below w0.heap.size w0 w' ∧ KeepBut w w' g none := by
  induction k using Nat.strongRecOn with
  | _ k ih =>
  intro g s0_0 s0_1 a1 r1 r2 r3 r4 r5 r6 w0 w hI hB h
  cases k with
  | zero => exact absurd h (by simp [spec_l1Some.f])
  | succ k =>
  simp only [spec_l1Some.f] at h
  have hu26 := Tryd.underlying26
  have HI0 := Aside0.mk hI
  have HK := Aside0.mk (KeepBut.refl w g none)
  have HL := Aside0.mk hB.size
  clear hI
  have HW0 := Aside0.mk hB.size
  have HB := Aside0.mk hB
  clear hB
  have H : (if a1 = 0 then (spec_l1Some.j0 k a1 true s0_0 s0_1) else ((spec_l15Rd_pick.f k s0_0 s0_1 3).bind fun bt214 => (spec_l1Some.j0 k a1 (bt214.1 == 0) s0_0 bt214.2))) = some (r1, r2, r3, r4, r5, r6) := h
  clear h
  have HC3 := Aside0.mk H
  clear H
  go_enter Tryd.func30, Tryd.ntmps30
  go_upto_region 1 with (first | ((with_reducible refine gate_dst (N := 4) rfl ?_); refine box_event ?hg (N := 4) ?hd (cs := #[.int .i64 0, .string (⟨#[]⟩ : ByteArray), .int .i64 0, .slice none 0 0, .slice none 0 0]) (t := 26) ?hr ?_; (case hd => rfl); (case hg => rfl); (case hr => first | (go_simp; done) | (go_simp; rfl)); intro gb213 hg w4 hbox hb; have n0_ := Aside0.mk (IsS78.below (by repeat (first | (with_reducible first | exact HI0.out | apply IsS78.alloc | apply IsS78.drewN | apply IsS78.drew | apply IsS78.set_1) | exact HI0.out)) hb); have n1_ := Aside0.mk (KeepBut.trans (by repeat (first | (with_reducible first | exact HK.out | apply KeepBut.set_ | apply keep_drewN | apply keep_drew | apply keep_alloc) | exact HK.out)) (KeepBut.of_below hb g none) (.inl rfl)); have n2_ := Aside0.mk (below_step (by repeat (first | (with_reducible first | exact HB.out | apply below_alloc | apply pw_below_drewN | apply below_drew1 | refine below_set ?_ (IsS78.ge HI0.out)) | exact HB.out)) hb); have n3_ := Aside0.mk (hbox); have n4_ := Aside0.mk ((by rw [hg]; exact (keep_size (w := w) (g := g) (row := none) (by repeat (first | (with_reducible first | exact HK.out | apply KeepBut.set_ | apply keep_drewN | apply keep_drew | apply keep_alloc) | exact HK.out))) : w.heap.size ≤ gb213)); have n5_ := Aside0.mk ((Nat.le_trans HW0.out (by rw [hg]; exact (keep_size (w := w) (g := g) (row := none) (by repeat (first | (with_reducible first | exact HK.out | apply KeepBut.set_ | apply keep_drewN | apply keep_drew | apply keep_alloc) | exact HK.out))) : w.heap.size ≤ gb213) : w0.heap.size ≤ gb213)); have n6_ := Aside0.mk ((by rw [hg]; exact Nat.ne_of_lt (IsS78.lt (show IsS78 w0 _ g s0_0 s0_1 from by repeat (first | (with_reducible first | exact HI0.out | apply IsS78.alloc | apply IsS78.drewN | apply IsS78.drew | apply IsS78.set_1) | exact HI0.out))) : g ≠ gb213)); have n7_ := Aside0.mk ((by rw [hg]; exact Nat.ne_of_gt (IsS78.lt (show IsS78 w0 _ g s0_0 s0_1 from by repeat (first | (with_reducible first | exact HI0.out | apply IsS78.alloc | apply IsS78.drewN | apply IsS78.drew | apply IsS78.set_1) | exact HI0.out))) : gb213 ≠ g)); clear HI0; clear HK; clear HB; have HI0 := n0_; have HK := n1_; have HB := n2_; have BK213 := n3_; have GW213 := n4_; have GE213 := n5_; have NB0_213 := n6_; have NB213_0 := n7_; clear n0_ n1_ n2_ n3_ n4_ n5_ n6_ n7_; clear hb hbox hg))
  (try simp only [Act.put, List.setIfInBounds_toArray, List.set_cons_zero, List.set_cons_succ])
  go_cut [13] (fun v13 wc => ∃ (kq : Nat) (x13_2 : Bool) (x1001_2 : Int), v13 = .bool x13_2 ∧ Aside0 (spec_l1Some.j0 kq a1 x13_2 s0_0 x1001_2 = some (r1, r2, r3, r4, r5, r6)) ∧ Aside0 (kq ≤ k) ∧ Aside0 (wc.heap[gb213]? = some (.cells #[.int .i64 0, .string (⟨#[]⟩ : ByteArray), .int .i64 0, (.slice none 0 0), (.slice none 0 0)] 26 (0, 0))) ∧ Aside0 (IsS78 w0 wc g s0_0 x1001_2) ∧ Aside0 (KeepBut w wc g none) ∧ Aside0 (Below w0.heap.size w0 wc))
  case first =>
    have H := HC3.out
    clear HC3
    by_cases c5 : a1 = 0
    · rw [if_pos c5] at H
      have c5b0 : (a1 == 0) = true := beq_iff_eq.mpr c5
      have c5b1 : (a1 != 0) = false := bne_eq_false_iff_eq.mpr c5
      clear c5
      (first | rw [c5b0] | (simp only [i64_w, i32_w]; rw [c5b0]) | skip)
      have H' := Aside0.mk H
      clear H
      go_wp2
      go_meet
      case rel => exact ⟨_, (true), (s0_1), (by first | rfl | (simp; done) | (simp [*]; done)), H', ⟨by first | omega | exact Nat.le_refl _⟩, ⟨by (with_reducible repeat (first | refine blk_drewN ?_ _ | refine blk_drew ?_ | refine blk_alloc ?_ _)); exact BK213.out⟩, ⟨by repeat (first | (with_reducible first | exact HI0.out | apply IsS78.alloc | apply IsS78.drewN | apply IsS78.drew | apply IsS78.set_1 | refine IsS78.far ?_ NB0_213.out _) | exact HI0.out)⟩, ⟨by repeat (first | (with_reducible first | exact HK.out | apply KeepBut.set_ | apply keep_drewN | apply keep_drew | apply keep_alloc | refine keep_far ?_ GW213.out _) | exact HK.out)⟩, ⟨by repeat (first | (with_reducible first | exact HB.out | apply below_alloc | apply pw_below_drewN | apply below_drew1 | refine below_set ?_ (IsS78.ge HI0.out) | refine below_set ?_ GE213.out) | exact HB.out)⟩⟩
    · rw [if_neg c5] at H
      have c5b0 : (a1 == 0) = false := beq_eq_false_iff_ne.mpr c5
      have c5b1 : (a1 != 0) = true := bne_iff_ne.mpr c5
      (first | rw [c5b0] | (simp only [i64_w, i32_w]; rw [c5b0]) | skip)
      replace H := Option.bind_eq_some_iff.mp H
      obtain ⟨⟨t214, t215⟩, A60, H⟩ := H
      replace H : (spec_l1Some.j0 k a1 (t214 == 0) s0_0 t215) = some (r1, r2, r3, r4, r5, r6) := H
      have A6 := Aside0.mk A60
      clear A60
      have H' := Aside0.mk H
      clear H
      go_wp2_with (first | (go_at_call 31; (with_reducible refine (spec_l15Rd_pick.calls k g s0_0 s0_1 3 t214 t215 w0 _ ?side1 ?side2 A6.out).mono ?_); (case side1 => repeat (first | (with_reducible first | exact HI0.out | apply IsS78.alloc | apply IsS78.drewN | apply IsS78.drew | apply IsS78.set_1 | refine IsS78.far ?_ NB0_213.out _) | exact HI0.out)); (case side2 => repeat (first | (with_reducible first | exact HB.out | apply below_alloc | apply pw_below_drewN | apply below_drew1 | refine below_set ?_ (IsS78.ge HI0.out) | refine below_set ?_ GE213.out) | exact HB.out)); rintro e w7 ⟨rfl, hi, hb, hk⟩; have n0_ := Aside0.mk (KeepBut.blk hk (g' := gb213) (o := .cells #[.int .i64 0, .string (⟨#[]⟩ : ByteArray), .int .i64 0, .slice none 0 0, .slice none 0 0] 26 (0, 0)) (by (with_reducible repeat (first | refine blk_drewN ?_ _ | refine blk_drew ?_ | refine blk_alloc ?_ _)); exact BK213.out) NB213_0.out (by simp)); have n1_ := Aside0.mk (KeepBut.trans (by repeat (first | (with_reducible first | exact HK.out | apply KeepBut.set_ | apply keep_drewN | apply keep_drew | apply keep_alloc | refine keep_far ?_ GW213.out _) | exact HK.out)) hk (.inl rfl)); have n2_ := Aside0.mk (hb); have n3_ := Aside0.mk (hi); clear BK213; clear HK; clear HB; clear HI0; have BK213 := n0_; have HK := n1_; have HB := n2_; have HI0 := n3_; clear n0_ n1_ n2_ n3_; (try clear hb); (try clear hb2); (try clear hk); (try clear hi)))
      go_meet
      case rel => exact ⟨_, ((t214 == 0)), (t215), (by first | rfl | (simp; done) | (simp [*]; done)), H', ⟨by first | omega | exact Nat.le_refl _⟩, ⟨by (with_reducible repeat (first | refine blk_drewN ?_ _ | refine blk_drew ?_ | refine blk_alloc ?_ _)); exact BK213.out⟩, ⟨by repeat (first | (with_reducible first | exact HI0.out | apply IsS78.alloc | apply IsS78.drewN | apply IsS78.drew | apply IsS78.set_1 | refine IsS78.far ?_ NB0_213.out _) | exact HI0.out)⟩, ⟨by repeat (first | (with_reducible first | exact HK.out | apply KeepBut.set_ | apply keep_drewN | apply keep_drew | apply keep_alloc | refine keep_far ?_ GW213.out _) | exact HK.out)⟩, ⟨by repeat (first | (with_reducible first | exact HB.out | apply below_alloc | apply pw_below_drewN | apply below_drew1 | refine below_set ?_ (IsS78.ge HI0.out) | refine below_set ?_ GE213.out) | exact HB.out)⟩⟩
  case rest =>
    clear HC3
    try clear p2
    try clear c3
    try clear c5
    try clear c5b0
    try clear c5b1
    obtain ⟨kq, x13_2, x1001_2, rfl, HA, HJ2, BK213, HI0, HK, HB⟩ := hcut
    cases kq with
    | zero => exact absurd HA.out (by simp [spec_l1Some.j0])
    | succ kj2 =>
      have H := HA.out
      clear HA
      simp only [spec_l1Some.j0] at H
      by_cases c8 : x13_2 = true
      · subst c8
        have H1 : ((spec_l15Rd_pick.f kj2 s0_0 x1001_2 4).bind fun bt216 => (if bt216.1 = 0 then ((spec_l15Rd_num.f kj2 s0_0 bt216.2 (([0, 1, 2, 7, 42, 999] : List Int))).bind fun bt221 => (some (2, (⟨#[]⟩ : ByteArray), bt221.1, ([] : List Int), ([] : List (S26)), bt221.2))) else ((spec_l15Rd_of.f kj2 s0_0 bt216.2 (([(⟨#[97]⟩ : ByteArray), (⟨#[98]⟩ : ByteArray), (⟨#[120]⟩ : ByteArray), (⟨#[121]⟩ : ByteArray), (⟨#[102]⟩ : ByteArray), (⟨#[105, 102]⟩ : ByteArray), (⟨#[108, 101, 116]⟩ : ByteArray), (⟨#[43]⟩ : ByteArray)] : List ByteArray))).bind fun bt226 => ((spec_l1Name.f bt226.1).bind fun bt228 => (some (bt228.1, bt228.2.1, bt228.2.2.1, bt228.2.2.2.1, bt228.2.2.2.2, bt226.2)))))) = some (r1, r2, r3, r4, r5, r6) := by rw [if_pos rfl] at H; exact H
        clear H
        have H := H1
        clear H1
        replace H := Option.bind_eq_some_iff.mp H
        obtain ⟨⟨t216, t217⟩, A90, H⟩ := H
        replace H : (if t216 = 0 then ((spec_l15Rd_num.f kj2 s0_0 t217 (([0, 1, 2, 7, 42, 999] : List Int))).bind fun bt221 => (some (2, (⟨#[]⟩ : ByteArray), bt221.1, ([] : List Int), ([] : List (S26)), bt221.2))) else ((spec_l15Rd_of.f kj2 s0_0 t217 (([(⟨#[97]⟩ : ByteArray), (⟨#[98]⟩ : ByteArray), (⟨#[120]⟩ : ByteArray), (⟨#[121]⟩ : ByteArray), (⟨#[102]⟩ : ByteArray), (⟨#[105, 102]⟩ : ByteArray), (⟨#[108, 101, 116]⟩ : ByteArray), (⟨#[43]⟩ : ByteArray)] : List ByteArray))).bind fun bt226 => ((spec_l1Name.f bt226.1).bind fun bt228 => (some (bt228.1, bt228.2.1, bt228.2.2.1, bt228.2.2.2.1, bt228.2.2.2.2, bt226.2))))) = some (r1, r2, r3, r4, r5, r6) := H
        have A9 := Aside0.mk A90
        clear A90
        by_cases c10 : t216 = 0
        · rw [if_pos c10] at H
          have c10b0 : (t216 == 0) = true := beq_iff_eq.mpr c10
          have c10b1 : (t216 != 0) = false := bne_eq_false_iff_eq.mpr c10
          clear c10
          obtain ⟨y218, hy218⟩ : ∃ y_ : List Int, y_ = (([0, 1, 2, 7, 42, 999] : List Int)) := ⟨_, rfl⟩
          replace H : ((spec_l15Rd_num.f kj2 s0_0 t217 y218).bind fun bt221 => (some (2, (⟨#[]⟩ : ByteArray), bt221.1, ([] : List Int), ([] : List (S26)), bt221.2))) = some (r1, r2, r3, r4, r5, r6) := by first | (rw [hy218]; with_reducible exact H) | (have H2_ := (Option.bind_some _ _).symm.trans H; rw [hy218]; with_reducible exact H2_) | (have H2_ := (Option.bind_some _ _).symm.trans H; with_reducible exact H2_) | with_reducible exact H | (rw [hy218]; exact H) | exact H
          have Ny218 := Aside0.mk hy218
          clear hy218
          replace H := Option.bind_eq_some_iff.mp H
          obtain ⟨⟨t221, t222⟩, A110, H⟩ := H
          replace H : (some (2, (⟨#[]⟩ : ByteArray), t221, ([] : List Int), ([] : List (S26)), t222)) = some (r1, r2, r3, r4, r5, r6) := H
          have A11 := Aside0.mk A110
          clear A110
          simp only [Option.some.injEq, Prod.mk.injEq] at H
          obtain ⟨rfl, rfl, rfl, rfl, rfl, rfl⟩ := H
          go_wp2_with (first | ((with_reducible refine gate_callee (f := 31) rfl ?_); refine goesL_ (some 15) rfl rfl Tryd.func31 (by kernel_rfl) rfl #[.pointer (some ⟨g, 0, none⟩), .int .i64 4] rfl (by (try simp only [List.map_toArray, List.map_cons, List.map_nil]); first | done | rfl | (simp only [List.length_drop, List.length_take]; rfl)) ?_; (with_reducible refine (spec_l15Rd_pick.calls kj2 g s0_0 x1001_2 4 t216 t217 w0 _ ?side1 ?side2 A9.out).mono ?_); (case side1 => repeat (first | (with_reducible first | exact HI0.out | apply IsS78.alloc | apply IsS78.drewN | apply IsS78.drew | apply IsS78.set_1 | refine IsS78.far ?_ NB0_213.out _) | exact HI0.out)); (case side2 => repeat (first | (with_reducible first | exact HB.out | apply below_alloc | apply pw_below_drewN | apply below_drew1 | refine below_set ?_ (IsS78.ge HI0.out) | refine below_set ?_ GE213.out) | exact HB.out)); rintro e w12 ⟨rfl, hi, hb, hk⟩; refine ⟨_, rfl, ?_⟩; have n0_ := Aside0.mk (KeepBut.blk hk (g' := gb213) (o := .cells #[.int .i64 0, .string (⟨#[]⟩ : ByteArray), .int .i64 0, .slice none 0 0, .slice none 0 0] 26 (0, 0)) (by (with_reducible repeat (first | refine blk_drewN ?_ _ | refine blk_drew ?_ | refine blk_alloc ?_ _)); exact BK213.out) NB213_0.out (by simp)); have n1_ := Aside0.mk (KeepBut.trans (by repeat (first | (with_reducible first | exact HK.out | apply KeepBut.set_ | apply keep_drewN | apply keep_drew | apply keep_alloc | refine keep_far ?_ GW213.out _) | exact HK.out)) hk (.inl rfl)); have n2_ := Aside0.mk (hb); have n3_ := Aside0.mk (hi); clear BK213; clear HK; clear HB; clear HI0; have BK213 := n0_; have HK := n1_; have HB := n2_; have HI0 := n3_; clear n0_ n1_ n2_ n3_; (try clear hb); (try clear hb2); (try clear hk); (try clear hi)) | ((with_reducible refine gate_dst (N := 18) rfl ?_); refine Kd.R_lit (Kd.int .i64) _ 3 ?hg (N := 18) ?hd (xs := ([0, 1, 2, 7, 42, 999] : List Int)) (inner := [.int .i64 0, .int .i64 1, .int .i64 2, .int .i64 7, .int .i64 42, .int .i64 999]) (ok := fun _ => True) (okp := fun _ => True) ?hr ?hp (fun _ hk => hk) trivial (Below.refl _ _) (Nat.le_refl _) (by simp) ?_; (case hd => rfl); (case hg => rfl); (case hr => first | (go_simp; done) | (go_simp; rfl)); (case hp => exact (Reps.one (show Kd.M (Kd.int .i64) _ _ _ 0 [.int .i64 0] from rfl) (Reps.one (show Kd.M (Kd.int .i64) _ _ _ 1 [.int .i64 1] from rfl) (Reps.one (show Kd.M (Kd.int .i64) _ _ _ 2 [.int .i64 2] from rfl) (Reps.one (show Kd.M (Kd.int .i64) _ _ _ 7 [.int .i64 7] from rfl) (Reps.one (show Kd.M (Kd.int .i64) _ _ _ 42 [.int .i64 42] from rfl) (Reps.one (show Kd.M (Kd.int .i64) _ _ _ 999 [.int .i64 999] from rfl) (Reps.none _ _)))))))); intro v219 w13 ho14 hb hg_ hnew_; clear hg_ hnew_; (first | rw [← Ny218.out] at ho14 | (simp only [Int.reduceToNat] at ho14; rw [← Ny218.out] at ho14)); have n0_ := Aside0.mk (Kd.R_lower ho14 (keep_size (w := w) (g := g) (row := none) (by repeat (first | (with_reducible first | exact HK.out | apply KeepBut.set_ | apply keep_drewN | apply keep_drew | apply keep_alloc | refine keep_far ?_ GW213.out _) | exact HK.out)))); have n1_ := Aside0.mk (blk_below (g := gb213) (o := .cells #[.int .i64 0, .string (⟨#[]⟩ : ByteArray), .int .i64 0, .slice none 0 0, .slice none 0 0] 26 (0, 0)) (by (with_reducible repeat (first | refine blk_drewN ?_ _ | refine blk_drew ?_ | refine blk_alloc ?_ _)); exact BK213.out) hb); have n2_ := Aside0.mk (IsS78.below (by repeat (first | (with_reducible first | exact HI0.out | apply IsS78.alloc | apply IsS78.drewN | apply IsS78.drew | apply IsS78.set_1 | refine IsS78.far ?_ NB0_213.out _) | exact HI0.out)) hb); have n3_ := Aside0.mk (KeepBut.trans (by repeat (first | (with_reducible first | exact HK.out | apply KeepBut.set_ | apply keep_drewN | apply keep_drew | apply keep_alloc | refine keep_far ?_ GW213.out _) | exact HK.out)) (KeepBut.of_below hb g none) (.inl rfl)); have n4_ := Aside0.mk (below_step (by repeat (first | (with_reducible first | exact HB.out | apply below_alloc | apply pw_below_drewN | apply below_drew1 | refine below_set ?_ (IsS78.ge HI0.out) | refine below_set ?_ GE213.out) | exact HB.out)) hb); clear BK213; clear HI0; clear HK; clear HB; have HO220 := n0_; have BK213 := n1_; have HI0 := n2_; have HK := n3_; have HB := n4_; clear n0_ n1_ n2_ n3_ n4_; clear hb ho14; obtain ⟨Ao15, co15, eo15⟩ := Kd.R_slice HO220.out; subst eo15) | ((with_reducible refine gate_callee (f := 62) rfl ?_); refine goesL_ (some 19) rfl rfl Tryd.func62 (by kernel_rfl) rfl #[.pointer (some ⟨g, 0, none⟩), .slice Ao15 y218.length co15] rfl (by (try simp only [List.map_toArray, List.map_cons, List.map_nil]); first | done | rfl | (simp only [List.length_drop, List.length_take]; rfl)) ?_; (with_reducible refine (spec_l15Rd_num.calls kj2 g s0_0 t217 _ _ y218 t221 t222 w0 _ ?side1 ?side2 ?side3 ?side4 ?side5 A11.out).mono ?_); (case side1 => repeat (first | (with_reducible first | exact HI0.out | apply IsS78.alloc | apply IsS78.drewN | apply IsS78.drew | apply IsS78.set_1 | refine IsS78.far ?_ NB0_213.out _) | exact HI0.out)); (case side2 => repeat (first | (with_reducible first | exact HB.out | apply below_alloc | apply pw_below_drewN | apply below_drew1 | refine below_set ?_ (IsS78.ge HI0.out) | refine below_set ?_ GE213.out) | exact HB.out)); (case side3 => repeat (first | exact (Kd.R_reads' HO220.out).2.2 | (with_reducible refine Kd.C_alloc ?_ _) | (with_reducible refine Kd.C_drewN ?_ _) | (with_reducible refine Kd.C_drew ?_))); (case side4 => exact (Kd.R_reads' HO220.out).2.1); (case side5 => exact far_slice (IsS78.own_ne HI0.out HO220.out (by decide))); rintro e w16 ⟨rfl, hi, hb, hk⟩; refine ⟨_, rfl, ?_⟩; have n0_ := Aside0.mk (KeepBut.blk hk (g' := gb213) (o := .cells #[.int .i64 0, .string (⟨#[]⟩ : ByteArray), .int .i64 0, .slice none 0 0, .slice none 0 0] 26 (0, 0)) (by (with_reducible repeat (first | refine blk_drewN ?_ _ | refine blk_drew ?_ | refine blk_alloc ?_ _)); exact BK213.out) NB213_0.out (by simp)); have n1_ := Aside0.mk (Kd.R_mono (Kd.R_keep (IsS78.apart (show IsS78 w0 _ g s0_0 t217 from by repeat (first | (with_reducible first | exact HI0.out | apply IsS78.alloc | apply IsS78.drewN | apply IsS78.drew | apply IsS78.set_1 | refine IsS78.far ?_ NB0_213.out _) | exact HI0.out)) (by (with_reducible repeat (first | apply Kd.R_alloc | apply Kd.R_drewN | apply Kd.R_drew)); exact HO220.out) (by decide)) hk (fun _ h => h.2)) (fun _ h => h.1)); have n2_ := Aside0.mk (KeepBut.trans (by repeat (first | (with_reducible first | exact HK.out | apply KeepBut.set_ | apply keep_drewN | apply keep_drew | apply keep_alloc | refine keep_far ?_ GW213.out _) | exact HK.out)) hk (.inl rfl)); have n3_ := Aside0.mk (hb); have n4_ := Aside0.mk (hi); clear BK213; clear HO220; clear HK; clear HB; clear HI0; have BK213 := n0_; have HO220 := n1_; have HK := n2_; have HB := n3_; have HI0 := n4_; clear n0_ n1_ n2_ n3_ n4_; (try clear hb); (try clear hb2); (try clear hk); (try clear hi); have hnb17 := NB213_0.out; have hnc17 := NB0_213.out; have hcz18_0 : w16.cell? ⟨gb213, 0, none⟩ = some (.int .i64 0) := (blk_cell BK213.out 0).trans rfl; have hcz18_1 : w16.cell? ⟨gb213, 1, none⟩ = some (.string (⟨#[]⟩ : ByteArray)) := (blk_cell BK213.out 1).trans rfl; have hcz18_2 : w16.cell? ⟨gb213, 2, none⟩ = some (.int .i64 0) := (blk_cell BK213.out 2).trans rfl; have hcz18_3 : w16.cell? ⟨gb213, 3, none⟩ = some (.slice none 0 0) := (blk_cell BK213.out 3).trans rfl; have hcz18_4 : w16.cell? ⟨gb213, 4, none⟩ = some (.slice none 0 0) := (blk_cell BK213.out 4).trans rfl; have hfz18_0 := blk_frozen BK213.out 0; have hfz18_1 := blk_frozen BK213.out 1; have hfz18_2 := blk_frozen BK213.out 2; have hfz18_3 := blk_frozen BK213.out 3; have hfz18_4 := blk_frozen BK213.out 4))
          refine bodyPost_ret (results_cell_row rfl _ _ gb213 26 #[.int .i64 2, .string (⟨#[]⟩ : ByteArray), .int .i64 t221, .slice none 0 0, .slice none 0 0] (0, 0) _ rfl (by (with_reducible repeat (first | refine blk_drewN ?_ _ | refine blk_drew ?_ | refine blk_alloc ?_ _)); refine blk_put (cs := #[.int .i64 2, .string (⟨#[]⟩ : ByteArray), .int .i64 t221, .slice none 0 0, .slice none 0 0]) ?_ 4 _ rfl; (with_reducible repeat (first | refine blk_drewN ?_ _ | refine blk_drew ?_ | refine blk_alloc ?_ _)); refine blk_put (cs := #[.int .i64 2, .string (⟨#[]⟩ : ByteArray), .int .i64 t221, .slice none 0 0, .slice none 0 0]) ?_ 3 _ rfl; (with_reducible repeat (first | refine blk_drewN ?_ _ | refine blk_drew ?_ | refine blk_alloc ?_ _)); refine blk_put (cs := #[.int .i64 2, .string (⟨#[]⟩ : ByteArray), .int .i64 0, .slice none 0 0, .slice none 0 0]) ?_ 2 _ rfl; (with_reducible repeat (first | refine blk_drewN ?_ _ | refine blk_drew ?_ | refine blk_alloc ?_ _)); refine blk_put (cs := #[.int .i64 2, .string (⟨#[]⟩ : ByteArray), .int .i64 0, .slice none 0 0, .slice none 0 0]) ?_ 1 _ rfl; (with_reducible repeat (first | refine blk_drewN ?_ _ | refine blk_drew ?_ | refine blk_alloc ?_ _)); refine blk_put (cs := #[.int .i64 0, .string (⟨#[]⟩ : ByteArray), .int .i64 0, .slice none 0 0, .slice none 0 0]) ?_ 0 _ rfl; (with_reducible repeat (first | refine blk_drewN ?_ _ | refine blk_drew ?_ | refine blk_alloc ?_ _)); exact BK213.out) Tryd.underlying26 rfl (by kernel_rfl)) rfl ?_
          exact ⟨_, _, by first | rfl | (simp [errW_none, errW_some] <;> rfl) | (simp [*, errW_none, errW_some] <;> rfl), by first | exact Kd.R_nil _ _ _ _ _ | exact Kd.N_nil _ _ _ _ _ | exact Kd.V_nil _ _ _ _ _ | exact Kd.Q_nil _ _ _ _ _ | exact Kd.S_nil _ _ _ _ _, by first | exact Kd.R_nil _ _ _ _ _ | exact Kd.N_nil _ _ _ _ _ | exact Kd.V_nil _ _ _ _ _ | exact Kd.Q_nil _ _ _ _ _ | exact Kd.S_nil _ _ _ _ _, by repeat (first | (with_reducible first | exact HI0.out | apply IsS78.alloc | apply IsS78.drewN | apply IsS78.drew | apply IsS78.set_1 | refine IsS78.far ?_ NB0_213.out _) | exact HI0.out), by repeat (first | (with_reducible first | exact HB.out | apply below_alloc | apply pw_below_drewN | apply below_drew1 | refine below_set ?_ (IsS78.ge HI0.out) | refine below_set ?_ GE213.out) | exact HB.out), by repeat (first | (with_reducible first | exact HK.out | apply KeepBut.set_ | apply keep_drewN | apply keep_drew | apply keep_alloc | refine keep_far ?_ GW213.out _) | exact HK.out)⟩
        · rw [if_neg c10] at H
          have c10b0 : (t216 == 0) = false := beq_eq_false_iff_ne.mpr c10
          have c10b1 : (t216 != 0) = true := bne_iff_ne.mpr c10
          obtain ⟨y223, hy223⟩ : ∃ y_ : List ByteArray, y_ = (([(⟨#[97]⟩ : ByteArray), (⟨#[98]⟩ : ByteArray), (⟨#[120]⟩ : ByteArray), (⟨#[121]⟩ : ByteArray), (⟨#[102]⟩ : ByteArray), (⟨#[105, 102]⟩ : ByteArray), (⟨#[108, 101, 116]⟩ : ByteArray), (⟨#[43]⟩ : ByteArray)] : List ByteArray)) := ⟨_, rfl⟩
          replace H : ((spec_l15Rd_of.f kj2 s0_0 t217 y223).bind fun bt226 => ((spec_l1Name.f bt226.1).bind fun bt228 => (some (bt228.1, bt228.2.1, bt228.2.2.1, bt228.2.2.2.1, bt228.2.2.2.2, bt226.2)))) = some (r1, r2, r3, r4, r5, r6) := by first | (rw [hy223]; with_reducible exact H) | (have H2_ := (Option.bind_some _ _).symm.trans H; rw [hy223]; with_reducible exact H2_) | (have H2_ := (Option.bind_some _ _).symm.trans H; with_reducible exact H2_) | with_reducible exact H | (rw [hy223]; exact H) | exact H
          have Ny223 := Aside0.mk hy223
          clear hy223
          replace H := Option.bind_eq_some_iff.mp H
          obtain ⟨⟨t226, t227⟩, A190, H⟩ := H
          replace H : ((spec_l1Name.f t226).bind fun bt228 => (some (bt228.1, bt228.2.1, bt228.2.2.1, bt228.2.2.2.1, bt228.2.2.2.2, t227))) = some (r1, r2, r3, r4, r5, r6) := H
          have A19 := Aside0.mk A190
          clear A190
          replace H := Option.bind_eq_some_iff.mp H
          obtain ⟨⟨t228, t229, t230, t231, t234⟩, A200, H⟩ := H
          replace H : (some (t228, t229, t230, t231, t234, t227)) = some (r1, r2, r3, r4, r5, r6) := H
          have A20 := Aside0.mk A200
          clear A200
          simp only [Option.some.injEq, Prod.mk.injEq] at H
          obtain ⟨rfl, rfl, rfl, rfl, rfl, rfl⟩ := H
          go_wp2_with (first | ((with_reducible refine gate_callee (f := 31) rfl ?_); refine goesL_ (some 15) rfl rfl Tryd.func31 (by kernel_rfl) rfl #[.pointer (some ⟨g, 0, none⟩), .int .i64 4] rfl (by (try simp only [List.map_toArray, List.map_cons, List.map_nil]); first | done | rfl | (simp only [List.length_drop, List.length_take]; rfl)) ?_; (with_reducible refine (spec_l15Rd_pick.calls kj2 g s0_0 x1001_2 4 t216 t217 w0 _ ?side1 ?side2 A9.out).mono ?_); (case side1 => repeat (first | (with_reducible first | exact HI0.out | apply IsS78.alloc | apply IsS78.drewN | apply IsS78.drew | apply IsS78.set_1 | refine IsS78.far ?_ NB0_213.out _) | exact HI0.out)); (case side2 => repeat (first | (with_reducible first | exact HB.out | apply below_alloc | apply pw_below_drewN | apply below_drew1 | refine below_set ?_ (IsS78.ge HI0.out) | refine below_set ?_ GE213.out) | exact HB.out)); rintro e w21 ⟨rfl, hi, hb, hk⟩; refine ⟨_, rfl, ?_⟩; have n0_ := Aside0.mk (KeepBut.blk hk (g' := gb213) (o := .cells #[.int .i64 0, .string (⟨#[]⟩ : ByteArray), .int .i64 0, .slice none 0 0, .slice none 0 0] 26 (0, 0)) (by (with_reducible repeat (first | refine blk_drewN ?_ _ | refine blk_drew ?_ | refine blk_alloc ?_ _)); exact BK213.out) NB213_0.out (by simp)); have n1_ := Aside0.mk (KeepBut.trans (by repeat (first | (with_reducible first | exact HK.out | apply KeepBut.set_ | apply keep_drewN | apply keep_drew | apply keep_alloc | refine keep_far ?_ GW213.out _) | exact HK.out)) hk (.inl rfl)); have n2_ := Aside0.mk (hb); have n3_ := Aside0.mk (hi); clear BK213; clear HK; clear HB; clear HI0; have BK213 := n0_; have HK := n1_; have HB := n2_; have HI0 := n3_; clear n0_ n1_ n2_ n3_; (try clear hb); (try clear hb2); (try clear hk); (try clear hi)) | ((with_reducible refine gate_dst (N := 22) rfl ?_); refine Kd.R_lit Kd.string _ 9 ?hg (N := 22) ?hd (xs := ([(⟨#[97]⟩ : ByteArray), (⟨#[98]⟩ : ByteArray), (⟨#[120]⟩ : ByteArray), (⟨#[121]⟩ : ByteArray), (⟨#[102]⟩ : ByteArray), (⟨#[105, 102]⟩ : ByteArray), (⟨#[108, 101, 116]⟩ : ByteArray), (⟨#[43]⟩ : ByteArray)] : List ByteArray)) (inner := [.string (⟨#[97]⟩ : ByteArray), .string (⟨#[98]⟩ : ByteArray), .string (⟨#[120]⟩ : ByteArray), .string (⟨#[121]⟩ : ByteArray), .string (⟨#[102]⟩ : ByteArray), .string (⟨#[105, 102]⟩ : ByteArray), .string (⟨#[108, 101, 116]⟩ : ByteArray), .string (⟨#[43]⟩ : ByteArray)]) (ok := fun _ => True) (okp := fun _ => True) ?hr ?hp (fun _ hk => hk) trivial (Below.refl _ _) (Nat.le_refl _) (by simp) ?_; (case hd => rfl); (case hg => rfl); (case hr => first | (go_simp; done) | (go_simp; rfl)); (case hp => exact (Reps.one (show Kd.M Kd.string _ _ _ (⟨#[97]⟩ : ByteArray) [.string (⟨#[97]⟩ : ByteArray)] from rfl) (Reps.one (show Kd.M Kd.string _ _ _ (⟨#[98]⟩ : ByteArray) [.string (⟨#[98]⟩ : ByteArray)] from rfl) (Reps.one (show Kd.M Kd.string _ _ _ (⟨#[120]⟩ : ByteArray) [.string (⟨#[120]⟩ : ByteArray)] from rfl) (Reps.one (show Kd.M Kd.string _ _ _ (⟨#[121]⟩ : ByteArray) [.string (⟨#[121]⟩ : ByteArray)] from rfl) (Reps.one (show Kd.M Kd.string _ _ _ (⟨#[102]⟩ : ByteArray) [.string (⟨#[102]⟩ : ByteArray)] from rfl) (Reps.one (show Kd.M Kd.string _ _ _ (⟨#[105, 102]⟩ : ByteArray) [.string (⟨#[105, 102]⟩ : ByteArray)] from rfl) (Reps.one (show Kd.M Kd.string _ _ _ (⟨#[108, 101, 116]⟩ : ByteArray) [.string (⟨#[108, 101, 116]⟩ : ByteArray)] from rfl) (Reps.one (show Kd.M Kd.string _ _ _ (⟨#[43]⟩ : ByteArray) [.string (⟨#[43]⟩ : ByteArray)] from rfl) (Reps.none _ _)))))))))); intro v224 w22 ho23 hb hg_ hnew_; clear hg_ hnew_; (first | rw [← Ny223.out] at ho23 | (simp only [Int.reduceToNat] at ho23; rw [← Ny223.out] at ho23)); have n0_ := Aside0.mk (Kd.R_lower ho23 (keep_size (w := w) (g := g) (row := none) (by repeat (first | (with_reducible first | exact HK.out | apply KeepBut.set_ | apply keep_drewN | apply keep_drew | apply keep_alloc | refine keep_far ?_ GW213.out _) | exact HK.out)))); have n1_ := Aside0.mk (blk_below (g := gb213) (o := .cells #[.int .i64 0, .string (⟨#[]⟩ : ByteArray), .int .i64 0, .slice none 0 0, .slice none 0 0] 26 (0, 0)) (by (with_reducible repeat (first | refine blk_drewN ?_ _ | refine blk_drew ?_ | refine blk_alloc ?_ _)); exact BK213.out) hb); have n2_ := Aside0.mk (IsS78.below (by repeat (first | (with_reducible first | exact HI0.out | apply IsS78.alloc | apply IsS78.drewN | apply IsS78.drew | apply IsS78.set_1 | refine IsS78.far ?_ NB0_213.out _) | exact HI0.out)) hb); have n3_ := Aside0.mk (KeepBut.trans (by repeat (first | (with_reducible first | exact HK.out | apply KeepBut.set_ | apply keep_drewN | apply keep_drew | apply keep_alloc | refine keep_far ?_ GW213.out _) | exact HK.out)) (KeepBut.of_below hb g none) (.inl rfl)); have n4_ := Aside0.mk (below_step (by repeat (first | (with_reducible first | exact HB.out | apply below_alloc | apply pw_below_drewN | apply below_drew1 | refine below_set ?_ (IsS78.ge HI0.out) | refine below_set ?_ GE213.out) | exact HB.out)) hb); clear BK213; clear HI0; clear HK; clear HB; have HO225 := n0_; have BK213 := n1_; have HI0 := n2_; have HK := n3_; have HB := n4_; clear n0_ n1_ n2_ n3_ n4_; clear hb ho23; obtain ⟨Ao24, co24, eo24⟩ := Kd.R_slice HO225.out; subst eo24) | ((with_reducible refine gate_callee (f := 64) rfl ?_); refine goesL_ (some 23) rfl rfl Tryd.func64 (by kernel_rfl) rfl #[.pointer (some ⟨g, 0, none⟩), .slice Ao24 y223.length co24] rfl (by (try simp only [List.map_toArray, List.map_cons, List.map_nil]); first | done | rfl | (simp only [List.length_drop, List.length_take]; rfl)) ?_; (with_reducible refine (spec_l15Rd_of.calls kj2 g s0_0 t217 _ _ y223 t226 t227 w0 _ ?side1 ?side2 ?side3 ?side4 ?side5 A19.out).mono ?_); (case side1 => repeat (first | (with_reducible first | exact HI0.out | apply IsS78.alloc | apply IsS78.drewN | apply IsS78.drew | apply IsS78.set_1 | refine IsS78.far ?_ NB0_213.out _) | exact HI0.out)); (case side2 => repeat (first | (with_reducible first | exact HB.out | apply below_alloc | apply pw_below_drewN | apply below_drew1 | refine below_set ?_ (IsS78.ge HI0.out) | refine below_set ?_ GE213.out) | exact HB.out)); (case side3 => repeat (first | exact (Kd.R_reads' HO225.out).2.2 | (with_reducible refine Kd.C_alloc ?_ _) | (with_reducible refine Kd.C_drewN ?_ _) | (with_reducible refine Kd.C_drew ?_))); (case side4 => exact (Kd.R_reads' HO225.out).2.1); (case side5 => exact far_slice (IsS78.own_ne HI0.out HO225.out (by decide))); rintro e w25 ⟨rfl, hi, hb, hk⟩; refine ⟨_, rfl, ?_⟩; have n0_ := Aside0.mk (KeepBut.blk hk (g' := gb213) (o := .cells #[.int .i64 0, .string (⟨#[]⟩ : ByteArray), .int .i64 0, .slice none 0 0, .slice none 0 0] 26 (0, 0)) (by (with_reducible repeat (first | refine blk_drewN ?_ _ | refine blk_drew ?_ | refine blk_alloc ?_ _)); exact BK213.out) NB213_0.out (by simp)); have n1_ := Aside0.mk (Kd.R_mono (Kd.R_keep (IsS78.apart (show IsS78 w0 _ g s0_0 t217 from by repeat (first | (with_reducible first | exact HI0.out | apply IsS78.alloc | apply IsS78.drewN | apply IsS78.drew | apply IsS78.set_1 | refine IsS78.far ?_ NB0_213.out _) | exact HI0.out)) (by (with_reducible repeat (first | apply Kd.R_alloc | apply Kd.R_drewN | apply Kd.R_drew)); exact HO225.out) (by decide)) hk (fun _ h => h.2)) (fun _ h => h.1)); have n2_ := Aside0.mk (KeepBut.trans (by repeat (first | (with_reducible first | exact HK.out | apply KeepBut.set_ | apply keep_drewN | apply keep_drew | apply keep_alloc | refine keep_far ?_ GW213.out _) | exact HK.out)) hk (.inl rfl)); have n3_ := Aside0.mk (hb); have n4_ := Aside0.mk (hi); clear BK213; clear HO225; clear HK; clear HB; clear HI0; have BK213 := n0_; have HO225 := n1_; have HK := n2_; have HB := n3_; have HI0 := n4_; clear n0_ n1_ n2_ n3_ n4_; (try clear hb); (try clear hb2); (try clear hk); (try clear hi)) | ((with_reducible refine gate_callee (f := 63) rfl ?_); refine goesL_ (some 24) rfl rfl Tryd.func63 (by kernel_rfl) rfl #[.string t226] rfl (by (try simp only [List.map_toArray, List.map_cons, List.map_nil]); first | done | rfl | (simp only [List.length_drop, List.length_take]; rfl)) ?_; (with_reducible refine (spec_l1Name.calls t226 t228 t229 t230 t231 t234 _ A20.out).mono ?_); rintro e w26 ⟨v232, v235, rfl, ho0, ho1, hb⟩; refine ⟨_, rfl, ?_⟩; have n0_ := Aside0.mk (Kd.R_below (by (with_reducible repeat (first | apply Kd.R_alloc | apply Kd.R_drewN | apply Kd.R_drew)); exact HO225.out) hb); have n1_ := Aside0.mk (Kd.R_lower ho0 (keep_size (w := w) (g := g) (row := none) (by repeat (first | (with_reducible first | exact HK.out | apply KeepBut.set_ | apply keep_drewN | apply keep_drew | apply keep_alloc | refine keep_far ?_ GW213.out _) | exact HK.out)))); have n2_ := Aside0.mk (Kd.R_lower (Kd.R_newB ho1 (g := gb213) (o := .cells #[.int .i64 0, .string (⟨#[]⟩ : ByteArray), .int .i64 0, .slice none 0 0, .slice none 0 0] 26 (0, 0)) (by (with_reducible repeat (first | refine blk_drewN ?_ _ | refine blk_drew ?_ | refine blk_alloc ?_ _)); exact BK213.out)) (keep_size (w := w) (g := g) (row := none) (by repeat (first | (with_reducible first | exact HK.out | apply KeepBut.set_ | apply keep_drewN | apply keep_drew | apply keep_alloc | refine keep_far ?_ GW213.out _) | exact HK.out)))); have n3_ := Aside0.mk (blk_below (g := gb213) (o := .cells #[.int .i64 0, .string (⟨#[]⟩ : ByteArray), .int .i64 0, .slice none 0 0, .slice none 0 0] 26 (0, 0)) (by (with_reducible repeat (first | refine blk_drewN ?_ _ | refine blk_drew ?_ | refine blk_alloc ?_ _)); exact BK213.out) hb); have n4_ := Aside0.mk (IsS78.below (by repeat (first | (with_reducible first | exact HI0.out | apply IsS78.alloc | apply IsS78.drewN | apply IsS78.drew | apply IsS78.set_1 | refine IsS78.far ?_ NB0_213.out _) | exact HI0.out)) hb); have n5_ := Aside0.mk (KeepBut.trans (by repeat (first | (with_reducible first | exact HK.out | apply KeepBut.set_ | apply keep_drewN | apply keep_drew | apply keep_alloc | refine keep_far ?_ GW213.out _) | exact HK.out)) (KeepBut.of_below hb g none) (.inl rfl)); have n6_ := Aside0.mk (below_step (by repeat (first | (with_reducible first | exact HB.out | apply below_alloc | apply pw_below_drewN | apply below_drew1 | refine below_set ?_ (IsS78.ge HI0.out) | refine below_set ?_ GE213.out) | exact HB.out)) hb); clear HO225; clear BK213; clear HI0; clear HK; clear HB; have HO225 := n0_; have HO233 := n1_; have HO236 := n2_; have BK213 := n3_; have HI0 := n4_; have HK := n5_; have HB := n6_; clear n0_ n1_ n2_ n3_ n4_ n5_ n6_; (try clear hb); (try clear hb2); (try clear hk); (try clear hi); (try clear ho0); (try clear ho1); have hnb27 := NB213_0.out; have hnc27 := NB0_213.out; have hcz28_0 : w26.cell? ⟨gb213, 0, none⟩ = some (.int .i64 0) := (blk_cell BK213.out 0).trans rfl; have hcz28_1 : w26.cell? ⟨gb213, 1, none⟩ = some (.string (⟨#[]⟩ : ByteArray)) := (blk_cell BK213.out 1).trans rfl; have hcz28_2 : w26.cell? ⟨gb213, 2, none⟩ = some (.int .i64 0) := (blk_cell BK213.out 2).trans rfl; have hcz28_3 : w26.cell? ⟨gb213, 3, none⟩ = some (.slice none 0 0) := (blk_cell BK213.out 3).trans rfl; have hcz28_4 : w26.cell? ⟨gb213, 4, none⟩ = some (.slice none 0 0) := (blk_cell BK213.out 4).trans rfl; have hfz28_0 := blk_frozen BK213.out 0; have hfz28_1 := blk_frozen BK213.out 1; have hfz28_2 := blk_frozen BK213.out 2; have hfz28_3 := blk_frozen BK213.out 3; have hfz28_4 := blk_frozen BK213.out 4; obtain ⟨Ao29, co29, eo29⟩ := Kd.R_slice HO233.out; subst eo29; obtain ⟨Ao30, co30, eo30⟩ := Kd.R_slice HO236.out; subst eo30))
          refine bodyPost_ret (results_cell_row rfl _ _ gb213 26 #[.int .i64 t228, .string t229, .int .i64 t230, .slice Ao29 t231.length co29, .slice Ao30 t234.length co30] (0, 0) _ rfl (by (with_reducible repeat (first | refine blk_drewN ?_ _ | refine blk_drew ?_ | refine blk_alloc ?_ _)); refine blk_put (cs := #[.int .i64 t228, .string t229, .int .i64 t230, .slice Ao29 t231.length co29, .slice none 0 0]) ?_ 4 _ rfl; (with_reducible repeat (first | refine blk_drewN ?_ _ | refine blk_drew ?_ | refine blk_alloc ?_ _)); refine blk_put (cs := #[.int .i64 t228, .string t229, .int .i64 t230, .slice none 0 0, .slice none 0 0]) ?_ 3 _ rfl; (with_reducible repeat (first | refine blk_drewN ?_ _ | refine blk_drew ?_ | refine blk_alloc ?_ _)); refine blk_put (cs := #[.int .i64 t228, .string t229, .int .i64 0, .slice none 0 0, .slice none 0 0]) ?_ 2 _ rfl; (with_reducible repeat (first | refine blk_drewN ?_ _ | refine blk_drew ?_ | refine blk_alloc ?_ _)); refine blk_put (cs := #[.int .i64 t228, .string (⟨#[]⟩ : ByteArray), .int .i64 0, .slice none 0 0, .slice none 0 0]) ?_ 1 _ rfl; (with_reducible repeat (first | refine blk_drewN ?_ _ | refine blk_drew ?_ | refine blk_alloc ?_ _)); refine blk_put (cs := #[.int .i64 0, .string (⟨#[]⟩ : ByteArray), .int .i64 0, .slice none 0 0, .slice none 0 0]) ?_ 0 _ rfl; (with_reducible repeat (first | refine blk_drewN ?_ _ | refine blk_drew ?_ | refine blk_alloc ?_ _)); exact BK213.out) Tryd.underlying26 rfl (by kernel_rfl)) rfl ?_
          exact ⟨_, _, by first | rfl | (simp [errW_none, errW_some] <;> rfl) | (simp [*, errW_none, errW_some] <;> rfl), by (with_reducible repeat (first | apply Kd.R_alloc | apply Kd.R_drewN | apply Kd.R_drew)); exact Kd.R_mono (Kd.R_far (p := ⟨gb213, 4, none⟩) (Kd.R_far (p := ⟨gb213, 3, none⟩) (Kd.R_far (p := ⟨gb213, 2, none⟩) (Kd.R_far (p := ⟨gb213, 1, none⟩) (Kd.R_far (p := ⟨gb213, 0, none⟩) (Kd.R_types HO233.out BK213.out (by decide)) (fun _ hk => hk.2) (.int .i64 t228)) (fun _ hk => hk.2) (.string t229)) (fun _ hk => hk.2) (.int .i64 t230)) (fun _ hk => hk.2) (.slice Ao29 t231.length co29)) (fun _ hk => hk.2) (.slice Ao30 t234.length co30)) (fun _ hk => trivial), by (with_reducible repeat (first | apply Kd.R_alloc | apply Kd.R_drewN | apply Kd.R_drew)); exact Kd.R_mono (Kd.R_far (p := ⟨gb213, 4, none⟩) (Kd.R_far (p := ⟨gb213, 3, none⟩) (Kd.R_far (p := ⟨gb213, 2, none⟩) (Kd.R_far (p := ⟨gb213, 1, none⟩) (Kd.R_far (p := ⟨gb213, 0, none⟩) (Kd.R_mono HO236.out (fun k_ hk => (⟨hk, hk.2⟩ : _ ∧ k_ ≠ gb213))) (fun _ hk => hk.2) (.int .i64 t228)) (fun _ hk => hk.2) (.string t229)) (fun _ hk => hk.2) (.int .i64 t230)) (fun _ hk => hk.2) (.slice Ao29 t231.length co29)) (fun _ hk => hk.2) (.slice Ao30 t234.length co30)) (fun _ hk => hk.1.1), by repeat (first | (with_reducible first | exact HI0.out | apply IsS78.alloc | apply IsS78.drewN | apply IsS78.drew | apply IsS78.set_1 | refine IsS78.far ?_ NB0_213.out _) | exact HI0.out), by repeat (first | (with_reducible first | exact HB.out | apply below_alloc | apply pw_below_drewN | apply below_drew1 | refine below_set ?_ (IsS78.ge HI0.out) | refine below_set ?_ GE213.out) | exact HB.out), by repeat (first | (with_reducible first | exact HK.out | apply KeepBut.set_ | apply keep_drewN | apply keep_drew | apply keep_alloc | refine keep_far ?_ GW213.out _) | exact HK.out)⟩
      · replace c8 := Bool.eq_false_iff.mpr c8
        subst c8
        have H1 : ((spec_l15Rd_pick.f kj2 s0_0 x1001_2 4).bind fun bt238 => (spec_l1Some.l0 kj2 a1 bt238.1 s0_0 bt238.2 3 (⟨#[]⟩ : ByteArray) 0 ([] : List (S26)))) = some (r1, r2, r3, r4, r5, r6) := by rw [if_neg (show ¬ (false = true) by decide)] at H; exact H
        clear H
        have H := H1
        clear H1
        replace H := Option.bind_eq_some_iff.mp H
        obtain ⟨⟨t238, t239⟩, A310, H⟩ := H
        replace H : (spec_l1Some.l0 kj2 a1 t238 s0_0 t239 3 (⟨#[]⟩ : ByteArray) 0 ([] : List (S26))) = some (r1, r2, r3, r4, r5, r6) := H
        have A31 := Aside0.mk A310
        clear A310
        have H' := Aside0.mk H
        clear H
        go_wp2_with (first | ((with_reducible refine gate_dst (N := 5) rfl ?_); refine box_event ?hg (N := 5) ?hd (cs := #[.int .i64 0, .string (⟨#[]⟩ : ByteArray), .int .i64 0, .slice none 0 0, .slice none 0 0]) (t := 26) ?hr ?_; (case hd => rfl); (case hg => rfl); (case hr => first | (go_simp; done) | (go_simp; rfl)); intro gb237 hg w32 hbox hb; have n0_ := Aside0.mk (blk_below (g := gb213) (o := .cells #[.int .i64 0, .string (⟨#[]⟩ : ByteArray), .int .i64 0, .slice none 0 0, .slice none 0 0] 26 (0, 0)) (by (with_reducible repeat (first | refine blk_drewN ?_ _ | refine blk_drew ?_ | refine blk_alloc ?_ _)); exact BK213.out) hb); have n1_ := Aside0.mk (IsS78.below (by repeat (first | (with_reducible first | exact HI0.out | apply IsS78.alloc | apply IsS78.drewN | apply IsS78.drew | apply IsS78.set_1 | refine IsS78.far ?_ NB0_213.out _) | exact HI0.out)) hb); have n2_ := Aside0.mk (KeepBut.trans (by repeat (first | (with_reducible first | exact HK.out | apply KeepBut.set_ | apply keep_drewN | apply keep_drew | apply keep_alloc | refine keep_far ?_ GW213.out _) | exact HK.out)) (KeepBut.of_below hb g none) (.inl rfl)); have n3_ := Aside0.mk (below_step (by repeat (first | (with_reducible first | exact HB.out | apply below_alloc | apply pw_below_drewN | apply below_drew1 | refine below_set ?_ (IsS78.ge HI0.out) | refine below_set ?_ GE213.out) | exact HB.out)) hb); have n4_ := Aside0.mk (hbox); have n5_ := Aside0.mk ((by rw [hg]; exact (keep_size (w := w) (g := g) (row := none) (by repeat (first | (with_reducible first | exact HK.out | apply KeepBut.set_ | apply keep_drewN | apply keep_drew | apply keep_alloc | refine keep_far ?_ GW213.out _) | exact HK.out))) : w.heap.size ≤ gb237)); have n6_ := Aside0.mk ((Nat.le_trans HW0.out (by rw [hg]; exact (keep_size (w := w) (g := g) (row := none) (by repeat (first | (with_reducible first | exact HK.out | apply KeepBut.set_ | apply keep_drewN | apply keep_drew | apply keep_alloc | refine keep_far ?_ GW213.out _) | exact HK.out))) : w.heap.size ≤ gb237) : w0.heap.size ≤ gb237)); have n7_ := Aside0.mk ((by rw [hg]; exact Nat.ne_of_lt (blk_lt (g := gb213) (o := .cells #[.int .i64 0, .string (⟨#[]⟩ : ByteArray), .int .i64 0, .slice none 0 0, .slice none 0 0] 26 (0, 0)) (by (with_reducible repeat (first | refine blk_drewN ?_ _ | refine blk_drew ?_ | refine blk_alloc ?_ _)); exact BK213.out)) : gb213 ≠ gb237)); have n8_ := Aside0.mk ((by rw [hg]; exact Nat.ne_of_gt (blk_lt (g := gb213) (o := .cells #[.int .i64 0, .string (⟨#[]⟩ : ByteArray), .int .i64 0, .slice none 0 0, .slice none 0 0] 26 (0, 0)) (by (with_reducible repeat (first | refine blk_drewN ?_ _ | refine blk_drew ?_ | refine blk_alloc ?_ _)); exact BK213.out)) : gb237 ≠ gb213)); have n9_ := Aside0.mk ((by rw [hg]; exact Nat.ne_of_lt (IsS78.lt (show IsS78 w0 _ g s0_0 x1001_2 from by repeat (first | (with_reducible first | exact HI0.out | apply IsS78.alloc | apply IsS78.drewN | apply IsS78.drew | apply IsS78.set_1 | refine IsS78.far ?_ NB0_213.out _) | exact HI0.out))) : g ≠ gb237)); have n10_ := Aside0.mk ((by rw [hg]; exact Nat.ne_of_gt (IsS78.lt (show IsS78 w0 _ g s0_0 x1001_2 from by repeat (first | (with_reducible first | exact HI0.out | apply IsS78.alloc | apply IsS78.drewN | apply IsS78.drew | apply IsS78.set_1 | refine IsS78.far ?_ NB0_213.out _) | exact HI0.out))) : gb237 ≠ g)); clear BK213; clear HI0; clear HK; clear HB; have BK213 := n0_; have HI0 := n1_; have HK := n2_; have HB := n3_; have BK237 := n4_; have GW237 := n5_; have GE237 := n6_; have NB213_237 := n7_; have NB237_213 := n8_; have NB0_237 := n9_; have NB237_0 := n10_; clear n0_ n1_ n2_ n3_ n4_ n5_ n6_ n7_ n8_ n9_ n10_; clear hb hbox hg; have hnb33 := NB237_213.out; have hnc33 := NB213_237.out; have hnb34 := NB237_0.out; have hnc34 := NB0_237.out; have hcz35_0 : w32.cell? ⟨gb237, 0, none⟩ = some (.int .i64 0) := (blk_cell BK237.out 0).trans rfl; have hcz35_1 : w32.cell? ⟨gb237, 1, none⟩ = some (.string (⟨#[]⟩ : ByteArray)) := (blk_cell BK237.out 1).trans rfl; have hcz35_2 : w32.cell? ⟨gb237, 2, none⟩ = some (.int .i64 0) := (blk_cell BK237.out 2).trans rfl; have hcz35_3 : w32.cell? ⟨gb237, 3, none⟩ = some (.slice none 0 0) := (blk_cell BK237.out 3).trans rfl; have hcz35_4 : w32.cell? ⟨gb237, 4, none⟩ = some (.slice none 0 0) := (blk_cell BK237.out 4).trans rfl; have hfz35_0 := blk_frozen BK237.out 0; have hfz35_1 := blk_frozen BK237.out 1; have hfz35_2 := blk_frozen BK237.out 2; have hfz35_3 := blk_frozen BK237.out 3; have hfz35_4 := blk_frozen BK237.out 4) | ((with_reducible refine gate_callee (f := 31) rfl ?_); refine goesL_ (some 27) rfl rfl Tryd.func31 (by kernel_rfl) rfl #[.pointer (some ⟨g, 0, none⟩), .int .i64 4] rfl (by (try simp only [List.map_toArray, List.map_cons, List.map_nil]); first | done | rfl | (simp only [List.length_drop, List.length_take]; rfl)) ?_; (with_reducible refine (spec_l15Rd_pick.calls kj2 g s0_0 x1001_2 4 t238 t239 w0 _ ?side1 ?side2 A31.out).mono ?_); (case side1 => repeat (first | (with_reducible first | exact HI0.out | apply IsS78.alloc | apply IsS78.drewN | apply IsS78.drew | apply IsS78.set_1 | refine IsS78.far ?_ NB0_213.out _ | refine IsS78.far ?_ NB0_237.out _) | exact HI0.out)); (case side2 => repeat (first | (with_reducible first | exact HB.out | apply below_alloc | apply pw_below_drewN | apply below_drew1 | refine below_set ?_ (IsS78.ge HI0.out) | refine below_set ?_ GE213.out | refine below_set ?_ GE237.out) | exact HB.out)); rintro e w36 ⟨rfl, hi, hb, hk⟩; refine ⟨_, rfl, ?_⟩; have n0_ := Aside0.mk (KeepBut.blk hk (g' := gb213) (o := .cells #[.int .i64 0, .string (⟨#[]⟩ : ByteArray), .int .i64 0, .slice none 0 0, .slice none 0 0] 26 (0, 0)) (by (with_reducible repeat (first | refine blk_drewN ?_ _ | refine blk_drew ?_ | refine blk_alloc ?_ _)); refine blk_far ?_ NB213_237.out _; (with_reducible repeat (first | refine blk_drewN ?_ _ | refine blk_drew ?_ | refine blk_alloc ?_ _)); refine blk_far ?_ NB213_237.out _; (with_reducible repeat (first | refine blk_drewN ?_ _ | refine blk_drew ?_ | refine blk_alloc ?_ _)); refine blk_far ?_ NB213_237.out _; (with_reducible repeat (first | refine blk_drewN ?_ _ | refine blk_drew ?_ | refine blk_alloc ?_ _)); refine blk_far ?_ NB213_237.out _; (with_reducible repeat (first | refine blk_drewN ?_ _ | refine blk_drew ?_ | refine blk_alloc ?_ _)); refine blk_far ?_ NB213_237.out _; (with_reducible repeat (first | refine blk_drewN ?_ _ | refine blk_drew ?_ | refine blk_alloc ?_ _)); exact BK213.out) NB213_0.out (by simp)); have n1_ := Aside0.mk (KeepBut.blk hk (g' := gb237) (o := .cells #[.int .i64 3, .string (⟨#[]⟩ : ByteArray), .int .i64 0, .slice none 0 0, .slice none 0 0] 26 (0, 0)) (by (with_reducible repeat (first | refine blk_drewN ?_ _ | refine blk_drew ?_ | refine blk_alloc ?_ _)); refine blk_put (cs := #[.int .i64 3, .string (⟨#[]⟩ : ByteArray), .int .i64 0, .slice none 0 0, .slice none 0 0]) ?_ 4 _ rfl; (with_reducible repeat (first | refine blk_drewN ?_ _ | refine blk_drew ?_ | refine blk_alloc ?_ _)); refine blk_put (cs := #[.int .i64 3, .string (⟨#[]⟩ : ByteArray), .int .i64 0, .slice none 0 0, .slice none 0 0]) ?_ 3 _ rfl; (with_reducible repeat (first | refine blk_drewN ?_ _ | refine blk_drew ?_ | refine blk_alloc ?_ _)); refine blk_put (cs := #[.int .i64 3, .string (⟨#[]⟩ : ByteArray), .int .i64 0, .slice none 0 0, .slice none 0 0]) ?_ 2 _ rfl; (with_reducible repeat (first | refine blk_drewN ?_ _ | refine blk_drew ?_ | refine blk_alloc ?_ _)); refine blk_put (cs := #[.int .i64 3, .string (⟨#[]⟩ : ByteArray), .int .i64 0, .slice none 0 0, .slice none 0 0]) ?_ 1 _ rfl; (with_reducible repeat (first | refine blk_drewN ?_ _ | refine blk_drew ?_ | refine blk_alloc ?_ _)); refine blk_put (cs := #[.int .i64 0, .string (⟨#[]⟩ : ByteArray), .int .i64 0, .slice none 0 0, .slice none 0 0]) ?_ 0 _ rfl; (with_reducible repeat (first | refine blk_drewN ?_ _ | refine blk_drew ?_ | refine blk_alloc ?_ _)); exact BK237.out) NB237_0.out (by simp)); have n2_ := Aside0.mk (KeepBut.trans (by repeat (first | (with_reducible first | exact HK.out | apply KeepBut.set_ | apply keep_drewN | apply keep_drew | apply keep_alloc | refine keep_far ?_ GW213.out _ | refine keep_far ?_ GW237.out _) | exact HK.out)) hk (.inl rfl)); have n3_ := Aside0.mk (hb); have n4_ := Aside0.mk (hi); clear BK213; clear BK237; clear HK; clear HB; clear HI0; have BK213 := n0_; have BK237 := n1_; have HK := n2_; have HB := n3_; have HI0 := n4_; clear n0_ n1_ n2_ n3_ n4_; (try clear hb); (try clear hb2); (try clear hk); (try clear hi)))
        go_loopg [6] kj2 (fun kq v6 w' => ∃ (x6_2 : Int) (x1001_2 : Int) (x238004_2 : List (S26)) (u238004 : Value), v6 = .int .i64 x6_2 ∧ Aside0 (spec_l1Some.l0 kq a1 x6_2 s0_0 x1001_2 3 (⟨#[]⟩ : ByteArray) 0 x238004_2 = some (r1, r2, r3, r4, r5, r6)) ∧ Aside0 (kq ≤ kj2) ∧ Aside0 (Kd.R k26 26 w' w.heap.size (fun k_ => k_ ≠ gb213 ∧ k_ ≠ gb237) u238004 x238004_2) ∧ Aside0 (w'.heap[gb213]? = some (.cells #[.int .i64 0, .string (⟨#[]⟩ : ByteArray), .int .i64 0, (.slice none 0 0), (.slice none 0 0)] 26 (0, 0))) ∧ Aside0 (w'.heap[gb237]? = some (.cells #[.int .i64 3, .string (⟨#[]⟩ : ByteArray), .int .i64 0, (.slice none 0 0), u238004] 26 (0, 0))) ∧ Aside0 (IsS78 w0 w' g s0_0 x1001_2) ∧ Aside0 (KeepBut w w' g none) ∧ Aside0 (Below w0.heap.size w0 w'))
        case atStart => exact ⟨(t238), (t239), (([] : List (S26))), (.slice none 0 0), (by first | rfl | (simp; done) | (simp [*]; done)), H', ⟨Nat.le_refl _⟩, ⟨by first | exact Kd.R_nil _ _ _ _ _ | exact Kd.N_nil _ _ _ _ _ | exact Kd.V_nil _ _ _ _ _ | exact Kd.Q_nil _ _ _ _ _ | exact Kd.S_nil _ _ _ _ _⟩, ⟨by (with_reducible repeat (first | refine blk_drewN ?_ _ | refine blk_drew ?_ | refine blk_alloc ?_ _)); exact BK213.out⟩, ⟨by (with_reducible repeat (first | refine blk_drewN ?_ _ | refine blk_drew ?_ | refine blk_alloc ?_ _)); exact BK237.out⟩, ⟨by repeat (first | (with_reducible first | exact HI0.out | apply IsS78.alloc | apply IsS78.drewN | apply IsS78.drew | apply IsS78.set_1 | refine IsS78.far ?_ NB0_213.out _ | refine IsS78.far ?_ NB0_237.out _) | exact HI0.out)⟩, ⟨by repeat (first | (with_reducible first | exact HK.out | apply KeepBut.set_ | apply keep_drewN | apply keep_drew | apply keep_alloc | refine keep_far ?_ GW213.out _ | refine keep_far ?_ GW237.out _) | exact HK.out)⟩, ⟨by repeat (first | (with_reducible first | exact HB.out | apply below_alloc | apply pw_below_drewN | apply below_drew1 | refine below_set ?_ (IsS78.ge HI0.out) | refine below_set ?_ GE213.out | refine below_set ?_ GE237.out) | exact HB.out)⟩⟩
        case round =>
          clear H'
          try clear c1
          try clear c2
          try clear p2
          try clear c3
          try clear c5
          try clear c5b0
          try clear c5b1
          try clear c6
          try clear c8
          try clear c10
          try clear c10b0
          try clear c10b1
          try clear c17
          try clear c27
          try clear c30
          try clear c31
          try clear c33
          try clear c34
          try clear hcz18_0
          try clear hcz18_1
          try clear hcz18_2
          try clear hcz18_3
          try clear hcz18_4
          try clear hcz28_0
          try clear hcz28_1
          try clear hcz28_2
          try clear hcz28_3
          try clear hcz28_4
          try clear hcz35_0
          try clear hcz35_1
          try clear hcz35_2
          try clear hcz35_3
          try clear hcz35_4
          try clear hfz18_0
          try clear hfz18_1
          try clear hfz18_2
          try clear hfz18_3
          try clear hfz18_4
          try clear hfz28_0
          try clear hfz28_1
          try clear hfz28_2
          try clear hfz28_3
          try clear hfz28_4
          try clear hfz35_0
          try clear hfz35_1
          try clear hfz35_2
          try clear hfz35_3
          try clear hfz35_4
          try clear p2
          obtain ⟨x6_2, x1001_2, x238004_2, u238004, rfl, HA, HK2, HO_238004, BK213, BK237, HI0, HK, HB⟩ := hrel
          cases gk with
          | zero => exact absurd HA.out (by simp [spec_l1Some.l0])
          | succ k2 =>
            have H := HA.out
            clear HA
            simp only [spec_l1Some.l0] at H
            by_cases c37 : x6_2 > 0
            · rw [if_pos c37] at H
              have c37b0 : decide (0 < x6_2) = true := decide_eq_true c37
              clear c37
              replace H := Option.bind_eq_some_iff.mp H
              obtain ⟨⟨t240, t241, t242, t243, t246, t249⟩, A380, H⟩ := H
              replace H : (if x238004_2.length < 1759218604441 then (spec_l1Some.l0 k2 a1 (wrap64 (x6_2 - 1)) s0_0 t249 3 (⟨#[]⟩ : ByteArray) 0 (x238004_2 ++ [(⟨t240, t241, t242, t243, t246⟩ : S26)])) else (none)) = some (r1, r2, r3, r4, r5, r6) := H
              have A38 := Aside0.mk A380
              clear A380
              by_cases c39 : x238004_2.length < 1759218604441
              · rw [if_pos c39] at H
                have LMc39 := Aside0.mk c39
                clear c39
                obtain ⟨y250, hy250⟩ : ∃ y_ : List (S26), y_ = (x238004_2 ++ [(⟨t240, t241, t242, t243, t246⟩ : S26)]) := ⟨_, rfl⟩
                replace H : (spec_l1Some.l0 k2 a1 (wrap64 (x6_2 - 1)) s0_0 t249 3 (⟨#[]⟩ : ByteArray) 0 y250) = some (r1, r2, r3, r4, r5, r6) := by first | (rw [hy250]; with_reducible exact H) | (have H2_ := (Option.bind_some _ _).symm.trans H; rw [hy250]; with_reducible exact H2_) | (have H2_ := (Option.bind_some _ _).symm.trans H; with_reducible exact H2_) | with_reducible exact H | (rw [hy250]; exact H) | exact H
                have Ny250 := Aside0.mk hy250
                clear hy250
                have H' := Aside0.mk H
                clear H
                try go_wp2
                have n0_ := Aside0.mk (Kd.R_drew HO_238004.out)
                have n1_ := Aside0.mk (blk_drew BK213.out)
                have n2_ := Aside0.mk (blk_drew BK237.out)
                have n3_ := Aside0.mk (IsS78.drew HI0.out)
                have n4_ := Aside0.mk (keep_drew HK.out)
                have n5_ := Aside0.mk (below_drew1 HB.out)
                clear HO_238004
                clear BK213
                clear BK237
                clear HI0
                clear HK
                clear HB
                have HO_238004 := n0_
                have BK213 := n1_
                have BK237 := n2_
                have HI0 := n3_
                have HK := n4_
                have HB := n5_
                clear n0_ n1_ n2_ n3_ n4_ n5_
                refine start_ (n := 10) (S := fun w' => w'.cell? ⟨gb237, 0, none⟩ = some (.int .i64 3) ∧ w'.cell? ⟨gb237, 1, none⟩ = some (.string (⟨#[]⟩ : ByteArray)) ∧ w'.cell? ⟨gb237, 2, none⟩ = some (.int .i64 0) ∧ w'.cell? ⟨gb237, 3, none⟩ = some (.slice none 0 0) ∧ w'.cell? ⟨gb237, 4, none⟩ = some (u238004)) (ds := [9]) #[false, false, false, false, false, false, false, false, false, false] (by kernel_rfl) rfl rfl ⟨(blk_cell BK237.out 0).trans rfl, (blk_cell BK237.out 1).trans rfl, (blk_cell BK237.out 2).trans rfl, (blk_cell BK237.out 3).trans rfl, (blk_cell BK237.out 4).trans rfl⟩ (fun hHeld => ?_); refine with_tabW spec_l1Some.tab9 spec_l1Some.bits9 (fun HT_ HW_ => ?_)
                generalize wr.drew = w40 at HO_238004 BK213 BK237 HI0 HK HB hHeld ⊢
                refine pure_ (i := 0) (N := some 32) (v := ?_) (a' := ?_) #[true, false, false, false, false, false, false, false, false, false] rfl rfl (any_of HT_.out (by kernel_rfl)) (fun _ _ _ h => h) (Or.inl ⟨by rfl, ?_⟩) ?_ ?_
                rotate_left
                · intro w'
                  go_simp
                  with_reducible rfl
                rotate_left
                · simp only [Act.put, List.setIfInBounds_toArray, List.set_cons_zero, List.set_cons_succ, i64_w, i32_w]
                  rfl
                refine pure_ (i := 2) (N := some 34) (v := ?_) (a' := ?_) #[true, false, true, false, false, false, false, false, false, false] rfl rfl (any_of HT_.out (by kernel_rfl)) (fun _ _ _ h => h) (Or.inl ⟨by rfl, ?_⟩) ?_ ?_
                rotate_left
                · intro w'
                  go_simp
                  with_reducible rfl
                rotate_left
                · simp only [Act.put, List.setIfInBounds_toArray, List.set_cons_zero, List.set_cons_succ, i64_w, i32_w]
                  rfl
                refine pure_ (i := 3) (N := some 35) (v := ?_) (a' := ?_) #[true, false, true, true, false, false, false, false, false, false] rfl rfl (any_of HT_.out (by kernel_rfl)) (fun _ _ _ h => h) (Or.inl ⟨by rfl, ?_⟩) ?_ ?_
                rotate_left
                · intro w'
                  go_simp
                  with_reducible rfl
                rotate_left
                · simp only [Act.put, List.setIfInBounds_toArray, List.set_cons_zero, List.set_cons_succ, i64_w, i32_w]
                  rfl
                refine pure_ (i := 4) (N := some 36) (v := ?_) (a' := ?_) #[true, false, true, true, true, false, false, false, false, false] rfl rfl (any_of HT_.out (by kernel_rfl)) (fun _ _ _ h => h) (Or.inl ⟨by rfl, ?_⟩) ?_ ?_
                rotate_left
                · intro w'
                  go_simp
                  with_reducible rfl
                rotate_left
                · simp only [Act.put, List.setIfInBounds_toArray, List.set_cons_zero, List.set_cons_succ, i64_w, i32_w]
                  rfl
                refine take_ (i := 1) (N := some 33) (v := ?_) (a' := ?_) #[true, true, true, true, true, false, false, false, false, false] rfl rfl (take_ofW HT_.out HW_.out (by kernel_rfl)) (fun _ _ _ h => h) (Or.inl ⟨by rfl, ?_⟩) hHeld ?_ ?_
                rotate_left
                · rintro w' ⟨s0, s1, s2, s3, s4⟩
                  go_simp
                  with_reducible rfl
                rotate_left
                · simp only [Act.put, List.setIfInBounds_toArray, List.set_cons_zero, List.set_cons_succ, i64_w, i32_w]
                  rfl
                refine one_ (i := 5) (N := some 37) #[true, true, true, true, true, true, false, false, false, false] rfl rfl (one_of HT_.out (by kernel_rfl)) (by decide) (fun K hK => ?_)
                refine goes_ Tryd.func30 (by kernel_rfl) rfl #[.pointer (some ⟨g, 0, none⟩), .int .i64 (wrap64 (a1 - 1))] (by rfl) rfl rfl (by (try simp only [List.map_toArray, List.map_cons, List.map_nil]); first | done | rfl | (simp only [List.length_drop, List.length_take]; rfl)) ?_
                with_reducible refine (ih k2 (by have := HJ2.out; have := HK2.out; omega) g s0_0 x1001_2 (wrap64 (a1 - 1)) t240 t241 t242 t243 t246 t249 w0 _ ?side1 ?side2 A38.out).mono ?_
                (case side1 => repeat (first | (with_reducible first | exact HI0.out | apply IsS78.alloc | apply IsS78.drewN | apply IsS78.drew | apply IsS78.set_1 | refine IsS78.far ?_ NB0_213.out _ | refine IsS78.far ?_ NB0_237.out _) | exact HI0.out))
                (case side2 => repeat (first | (with_reducible first | exact HB.out | apply below_alloc | apply pw_below_drewN | apply below_drew1 | refine below_set ?_ (IsS78.ge HI0.out) | refine below_set ?_ GE213.out | refine below_set ?_ GE237.out) | exact HB.out))
                rintro e w41 ⟨v244, v247, rfl, ho0, ho1, hi, hb, hk⟩
                refine ⟨_, rfl, ?_⟩
                have n0_ := Aside0.mk (Kd.R_mono (Kd.R_told (Kd.R_told (Kd.R_oldK (IsS78.apart (show IsS78 w0 _ g s0_0 x1001_2 from by repeat (first | (with_reducible first | exact HI0.out | apply IsS78.alloc | apply IsS78.drewN | apply IsS78.drew | apply IsS78.set_1 | refine IsS78.far ?_ NB0_213.out _ | refine IsS78.far ?_ NB0_237.out _) | exact HI0.out)) (by (with_reducible repeat (first | apply Kd.R_alloc | apply Kd.R_drewN | apply Kd.R_drew)); exact HO_238004.out) (by decide)) hk) (Kd.R_base ho0)) (Kd.R_base ho1)) (fun _ h_ => h_.1))
                have n1_ := Aside0.mk (KeepBut.blk hk (g' := gb213) (o := .cells #[.int .i64 0, .string (⟨#[]⟩ : ByteArray), .int .i64 0, .slice none 0 0, .slice none 0 0] 26 (0, 0)) (by (with_reducible repeat (first | refine blk_drewN ?_ _ | refine blk_drew ?_ | refine blk_alloc ?_ _)); exact BK213.out) NB213_0.out (by simp))
                have n2_ := Aside0.mk (KeepBut.blk hk (g' := gb237) (o := .cells #[.int .i64 3, .string (⟨#[]⟩ : ByteArray), .int .i64 0, .slice none 0 0, u238004] 26 (0, 0)) (by (with_reducible repeat (first | refine blk_drewN ?_ _ | refine blk_drew ?_ | refine blk_alloc ?_ _)); exact BK237.out) NB237_0.out (by simp))
                have n3_ := Aside0.mk (Kd.R_lower ho0 (keep_size (w := w) (g := g) (row := none) (by repeat (first | (with_reducible first | exact HK.out | apply KeepBut.set_ | apply keep_drewN | apply keep_drew | apply keep_alloc | refine keep_far ?_ GW213.out _ | refine keep_far ?_ GW237.out _) | exact HK.out))))
                have n4_ := Aside0.mk (Kd.R_lower (Kd.R_newB (Kd.R_newB (Kd.R_new' ho1 (Kd.R_lt (by (with_reducible repeat (first | apply Kd.R_alloc | apply Kd.R_drewN | apply Kd.R_drew)); exact HO_238004.out))) (g := gb213) (o := .cells #[.int .i64 0, .string (⟨#[]⟩ : ByteArray), .int .i64 0, .slice none 0 0, .slice none 0 0] 26 (0, 0)) (by (with_reducible repeat (first | refine blk_drewN ?_ _ | refine blk_drew ?_ | refine blk_alloc ?_ _)); exact BK213.out)) (g := gb237) (o := .cells #[.int .i64 3, .string (⟨#[]⟩ : ByteArray), .int .i64 0, .slice none 0 0, u238004] 26 (0, 0)) (by (with_reducible repeat (first | refine blk_drewN ?_ _ | refine blk_drew ?_ | refine blk_alloc ?_ _)); exact BK237.out)) (keep_size (w := w) (g := g) (row := none) (by repeat (first | (with_reducible first | exact HK.out | apply KeepBut.set_ | apply keep_drewN | apply keep_drew | apply keep_alloc | refine keep_far ?_ GW213.out _ | refine keep_far ?_ GW237.out _) | exact HK.out))))
                have n5_ := Aside0.mk (KeepBut.trans (by repeat (first | (with_reducible first | exact HK.out | apply KeepBut.set_ | apply keep_drewN | apply keep_drew | apply keep_alloc | refine keep_far ?_ GW213.out _ | refine keep_far ?_ GW237.out _) | exact HK.out)) hk (.inl rfl))
                have n6_ := Aside0.mk (hb)
                have n7_ := Aside0.mk (hi)
                clear HO_238004
                clear BK213
                clear BK237
                clear HK
                clear HB
                clear HI0
                have HO_238004 := n0_
                have BK213 := n1_
                have BK237 := n2_
                have HO245 := n3_
                have HO248 := n4_
                have HK := n5_
                have HB := n6_
                have HI0 := n7_
                clear n0_ n1_ n2_ n3_ n4_ n5_ n6_ n7_
                (try clear hb)
                (try clear hb2)
                (try clear hk)
                (try clear hi)
                (try clear ho0)
                (try clear ho1)
                obtain ⟨Ao43, co43, eo43⟩ := Kd.R_slice HO245.out
                (first | subst eo43 | (injection eo43 with f1_ f2_ f3_; have f4_ := f1_.symm; have f5_ := f3_.symm; clear f1_ f2_ f3_; subst f4_; subst f5_))
                obtain ⟨Ao44, co44, eo44⟩ := Kd.R_slice HO248.out
                (first | subst eo44 | (injection eo44 with f1_ f2_ f3_; have f4_ := f1_.symm; have f5_ := f3_.symm; clear f1_ f2_ f3_; subst f4_; subst f5_))
                refine hK.out _ _ ⟨(blk_cell BK237.out 0).trans rfl, (blk_cell BK237.out 1).trans rfl, (blk_cell BK237.out 2).trans rfl, (blk_cell BK237.out 3).trans rfl, (blk_cell BK237.out 4).trans rfl⟩ (fun hHeld => ?_)
                clear hK K
                refine norm_ (a' := ?_) ?_ ?_
                rotate_left
                · show Act.put _ (some 37) _ = _
                  simp only [Act.put, List.setIfInBounds_toArray, List.set_cons_zero, List.set_cons_succ, i64_w, i32_w]
                  rfl
                refine one_ (i := 6) (N := some 38) #[true, true, true, true, true, true, true, false, false, false] rfl rfl (one_of HT_.out (by kernel_rfl)) (by decide) (fun K hK => ?_)
                refine value_ (w1 := ?_) (v := ?_) (by rfl) rfl ?_ ?_
                rotate_left 2
                · go_simp
                  constructor
                  · rfl
                  · rfl
                refine hK.out _ _ ⟨(blk_cell (blk_alloc BK237.out _) 0).trans rfl, (blk_cell (blk_alloc BK237.out _) 1).trans rfl, (blk_cell (blk_alloc BK237.out _) 2).trans rfl, (blk_cell (blk_alloc BK237.out _) 3).trans rfl, (blk_cell (blk_alloc BK237.out _) 4).trans rfl⟩ (fun hHeld => ?_)
                clear hK K
                refine norm_ (a' := ?_) ?_ ?_
                rotate_left
                · show Act.put _ (some 38) _ = _
                  simp only [Act.put, List.setIfInBounds_toArray, List.set_cons_zero, List.set_cons_succ, i64_w, i32_w]
                  rfl
                refine one_ (i := 7) (N := some 39) #[true, true, true, true, true, true, true, true, false, false] rfl rfl (one_of HT_.out (by kernel_rfl)) (by decide) (fun K hK => ?_)
                refine Kd.R_append_step k26 w.heap.size (by rfl) (.tmp 33) (.tmp 38) 24 26 (.agg #[(.int .i64 0), (.string ⟨#[]⟩), (.int .i64 0), (.slice none 0 0), (.slice none 0 0)]) 80 rfl Tryd.underlying24 info26 rfl (by decide) (by omega) u238004 x238004_2 (⟨t240, t241, t242, t243, t246⟩ : S26) [.int .i64 t240, .string t241, .int .i64 t242, .slice Ao43 t243.length co43, .slice Ao44 t246.length co44] (fun k_ => k_ ≠ gb213 ∧ k_ ≠ gb237) (fun k_ => ((fun k_ => k_ ≠ gb213 ∧ k_ ≠ gb237)) k_ ∧ some k_ ≠ (u238004 : Value).ownBlock) rfl rfl ?aP (fun _ hk => hk) ?aF ?aO (Below.refl _ _) ?aS ?aL ?_
                (case aP => exact k26_mkM _ _ _ (⟨t240, t241, t242, t243, t246⟩ : S26) (Kd.R_mono (Kd.R_types (Kd.R_types (Kd.R_apart' (HO245.out) (Kd.R_typed HO_238004.out) (by decide)) BK213.out (by decide)) BK237.out (by decide)) (fun k_ hk => ⟨⟨hk.1.2, hk.2⟩, hk.1.1.2⟩)) (Kd.R_mono (HO248.out) (fun k_ hk => ⟨⟨hk.1.2, hk.2⟩, hk.1.1.2⟩)))
                (case aF => exact (fun k_ hk => ⟨Kd.freshB (g := gb213) (o := .cells #[.int .i64 0, .string (⟨#[]⟩ : ByteArray), .int .i64 0, .slice none 0 0, .slice none 0 0] 26 (0, 0)) (by (with_reducible repeat (first | refine blk_drewN ?_ _ | refine blk_drew ?_ | refine blk_alloc ?_ _)); exact BK213.out) k_ hk, Kd.freshB (g := gb237) (o := .cells #[.int .i64 3, .string (⟨#[]⟩ : ByteArray), .int .i64 0, .slice none 0 0, u238004] 26 (0, 0)) (by (with_reducible repeat (first | refine blk_drewN ?_ _ | refine blk_drew ?_ | refine blk_alloc ?_ _)); exact BK237.out) k_ hk⟩))
                (case aO => exact (by (with_reducible repeat (first | apply Kd.R_alloc | apply Kd.R_drewN | apply Kd.R_drew)); exact Kd.R_mono HO_238004.out (fun _ hk => ⟨hk.1.1.1, hk.1.1.2⟩)))
                (case aS => exact (keep_size (w := w) (g := g) (row := none) (by repeat (first | (with_reducible first | exact HK.out | apply KeepBut.set_ | apply keep_drewN | apply keep_drew | apply keep_alloc | refine keep_far ?_ GW213.out _ | refine keep_far ?_ GW237.out _) | exact HK.out))))
                (case aL => have := LMc39.out; omega)
                intro v251 w42 ho hb hg hat
                rw [← Ny250.out] at ho
                have n0_ := Aside0.mk (blk_grown (g := gb213) (o := .cells #[.int .i64 0, .string (⟨#[]⟩ : ByteArray), .int .i64 0, .slice none 0 0, .slice none 0 0] 26 (0, 0)) (by (with_reducible repeat (first | refine blk_drewN ?_ _ | refine blk_drew ?_ | refine blk_alloc ?_ _)); exact BK213.out) hg (Kd.R_away HO_238004.out (fun _ hk => hk.1.1.1)))
                have n1_ := Aside0.mk (blk_grown (g := gb237) (o := .cells #[.int .i64 3, .string (⟨#[]⟩ : ByteArray), .int .i64 0, .slice none 0 0, u238004] 26 (0, 0)) (by (with_reducible repeat (first | refine blk_drewN ?_ _ | refine blk_drew ?_ | refine blk_alloc ?_ _)); exact BK237.out) hg (Kd.R_away HO_238004.out (fun _ hk => hk.1.1.2)))
                have n2_ := Aside0.mk (IsS78.grown (by repeat (first | (with_reducible first | exact HI0.out | apply IsS78.alloc | apply IsS78.drewN | apply IsS78.drew | apply IsS78.set_1 | refine IsS78.far ?_ NB0_213.out _ | refine IsS78.far ?_ NB0_237.out _) | exact HI0.out)) hg (IsS78.own_ne HI0.out HO_238004.out (by decide)))
                have n3_ := Aside0.mk (below_weaken (by repeat (first | (with_reducible first | exact HB.out | apply below_alloc | apply pw_below_drewN | apply below_drew1 | refine below_set ?_ (IsS78.ge HI0.out) | refine below_set ?_ GE213.out | refine below_set ?_ GE237.out) | exact HB.out)) HL.out hb)
                have n4_ := Aside0.mk (KeepBut.trans (by repeat (first | (with_reducible first | exact HK.out | apply KeepBut.set_ | apply keep_drewN | apply keep_drew | apply keep_alloc | refine keep_far ?_ GW213.out _ | refine keep_far ?_ GW237.out _) | exact HK.out)) (KeepBut.of_grown hg g) (Kd.R_base2 HO_238004.out))
                have n5_ := Aside0.mk (ho)
                clear BK213
                clear BK237
                clear HI0
                clear HB
                clear HK
                clear HO_238004
                clear HO245
                clear HO248
                have BK213 := n0_
                have BK237 := n1_
                have HI0 := n2_
                have HB := n3_
                have HK := n4_
                have HO252 := n5_
                clear n0_ n1_ n2_ n3_ n4_ n5_
                clear ho hb hg hat
                obtain ⟨Ao45, co45, eo45⟩ := Kd.R_slice HO252.out
                (first | subst eo45 | (injection eo45 with f1_ f2_ f3_; have f4_ := f1_.symm; have f5_ := f3_.symm; clear f1_ f2_ f3_; subst f4_; subst f5_))
                refine hK.out _ _ ⟨(blk_cell BK237.out 0).trans rfl, (blk_cell BK237.out 1).trans rfl, (blk_cell BK237.out 2).trans rfl, (blk_cell BK237.out 3).trans rfl, (blk_cell BK237.out 4).trans rfl⟩ (fun hHeld => ?_)
                clear hK K
                refine norm_ (a' := ?_) ?_ ?_
                rotate_left
                · show Act.put _ (some 39) _ = _
                  simp only [Act.put, List.setIfInBounds_toArray, List.set_cons_zero, List.set_cons_succ, i64_w, i32_w]
                  rfl
                refine pure_ (i := 8) (N := some 40) (v := ?_) (a' := ?_) #[true, true, true, true, true, true, true, true, true, false] rfl rfl (any_of HT_.out (by kernel_rfl)) (fun _ _ _ h => h) (Or.inl ⟨by rfl, ?_⟩) ?_ ?_
                rotate_left
                · intro w'
                  go_simp
                  with_reducible rfl
                rotate_left
                · simp only [Act.put, List.setIfInBounds_toArray, List.set_cons_zero, List.set_cons_succ, i64_w, i32_w]
                  rfl
                refine last_ (i := 9) (N := none) #[true, true, true, true, true, true, true, true, true, true] rfl rfl (one_of HT_.out (by kernel_rfl)) (by decide) (fun K hK => ?_)
                have hs46 : w42.cell? ⟨gb237, 4, none⟩ = some (u238004) := (blk_cell BK237.out 4).trans rfl
                have hfs46 := blk_frozen BK237.out 4
                have hns46_0 := NB213_237.out
                have hms46_0 := NB237_213.out
                refine skip_ (w1 := ?_) (by rfl) rfl ?_ ?_
                rotate_left
                · go_simp
                  rfl
                refine hK.out _ _ ?_
                clear hK K
                refine done_ (done_of HT_.out (by kernel_rfl)) ?_
                try go_wp2
                go_roundg k2
                case measure => have := HJ2.out; have := HK2.out; omega
                case rel => exact ⟨(wrap64 (x6_2 - 1)), (t249), (y250), (.slice Ao45 y250.length co45), (by first | rfl | (simp; done) | (simp [*]; done)), H', ⟨by have := HJ2.out; have := HK2.out; omega⟩, ⟨by (with_reducible repeat (first | apply Kd.R_alloc | apply Kd.R_drewN | apply Kd.R_drew)); exact Kd.R_mono (Kd.R_far (p := ⟨gb237, 4, none⟩) (Kd.R_mono HO252.out (fun k_ hk => (⟨hk, hk.2⟩ : _ ∧ k_ ≠ gb237))) (fun _ hk => hk.2) (.slice Ao45 y250.length co45)) (fun _ hk => ⟨hk.1.1, hk.1.2⟩)⟩, ⟨by (with_reducible repeat (first | refine blk_drewN ?_ _ | refine blk_drew ?_ | refine blk_alloc ?_ _)); refine blk_far ?_ NB213_237.out _; (with_reducible repeat (first | refine blk_drewN ?_ _ | refine blk_drew ?_ | refine blk_alloc ?_ _)); exact BK213.out⟩, ⟨by (with_reducible repeat (first | refine blk_drewN ?_ _ | refine blk_drew ?_ | refine blk_alloc ?_ _)); refine blk_put (cs := #[.int .i64 3, .string (⟨#[]⟩ : ByteArray), .int .i64 0, .slice none 0 0, u238004]) ?_ 4 _ rfl; (with_reducible repeat (first | refine blk_drewN ?_ _ | refine blk_drew ?_ | refine blk_alloc ?_ _)); exact BK237.out⟩, ⟨by repeat (first | (with_reducible first | exact HI0.out | apply IsS78.alloc | apply IsS78.drewN | apply IsS78.drew | apply IsS78.set_1 | refine IsS78.far ?_ NB0_213.out _ | refine IsS78.far ?_ NB0_237.out _) | exact HI0.out)⟩, ⟨by repeat (first | (with_reducible first | exact HK.out | apply KeepBut.set_ | apply keep_drewN | apply keep_drew | apply keep_alloc | refine keep_far ?_ GW213.out _ | refine keep_far ?_ GW237.out _) | exact HK.out)⟩, ⟨by repeat (first | (with_reducible first | exact HB.out | apply below_alloc | apply pw_below_drewN | apply below_drew1 | refine below_set ?_ (IsS78.ge HI0.out) | refine below_set ?_ GE213.out | refine below_set ?_ GE237.out) | exact HB.out)⟩⟩
              · rw [if_neg c39] at H
                exact absurd H (by simp)
            · rw [if_neg c37] at H
              have c37b0 : decide (0 < x6_2) = false := decide_eq_false c37
              clear c37
              simp only [Option.some.injEq, Prod.mk.injEq] at H
              obtain ⟨rfl, rfl, rfl, rfl, rfl, rfl⟩ := H
              have hnb47 := NB237_213.out
              have hnc47 := NB213_237.out
              have hnb48 := NB237_0.out
              have hnc48 := NB0_237.out
              have hcz49_0 : wr.cell? ⟨gb237, 0, none⟩ = some (.int .i64 3) := (blk_cell BK237.out 0).trans rfl
              have hcz49_1 : wr.cell? ⟨gb237, 1, none⟩ = some (.string (⟨#[]⟩ : ByteArray)) := (blk_cell BK237.out 1).trans rfl
              have hcz49_2 : wr.cell? ⟨gb237, 2, none⟩ = some (.int .i64 0) := (blk_cell BK237.out 2).trans rfl
              have hcz49_3 : wr.cell? ⟨gb237, 3, none⟩ = some (.slice none 0 0) := (blk_cell BK237.out 3).trans rfl
              have hcz49_4 : wr.cell? ⟨gb237, 4, none⟩ = some (u238004) := (blk_cell BK237.out 4).trans rfl
              have hfz49_0 := blk_frozen BK237.out 0
              have hfz49_1 := blk_frozen BK237.out 1
              have hfz49_2 := blk_frozen BK237.out 2
              have hfz49_3 := blk_frozen BK237.out 3
              have hfz49_4 := blk_frozen BK237.out 4
              have hnb50 := NB213_0.out
              have hnc50 := NB0_213.out
              have hcz51_0 : wr.cell? ⟨gb213, 0, none⟩ = some (.int .i64 0) := (blk_cell BK213.out 0).trans rfl
              have hcz51_1 : wr.cell? ⟨gb213, 1, none⟩ = some (.string (⟨#[]⟩ : ByteArray)) := (blk_cell BK213.out 1).trans rfl
              have hcz51_2 : wr.cell? ⟨gb213, 2, none⟩ = some (.int .i64 0) := (blk_cell BK213.out 2).trans rfl
              have hcz51_3 : wr.cell? ⟨gb213, 3, none⟩ = some (.slice none 0 0) := (blk_cell BK213.out 3).trans rfl
              have hcz51_4 : wr.cell? ⟨gb213, 4, none⟩ = some (.slice none 0 0) := (blk_cell BK213.out 4).trans rfl
              have hfz51_0 := blk_frozen BK213.out 0
              have hfz51_1 := blk_frozen BK213.out 1
              have hfz51_2 := blk_frozen BK213.out 2
              have hfz51_3 := blk_frozen BK213.out 3
              have hfz51_4 := blk_frozen BK213.out 4
              obtain ⟨Ao52, co52, eo52⟩ := Kd.R_slice HO_238004.out
              subst eo52
              go_wp2
              refine bodyPost_ret (results_cell_row rfl _ _ gb213 26 #[.int .i64 3, .string (⟨#[]⟩ : ByteArray), .int .i64 0, .slice none 0 0, .slice Ao52 x238004_2.length co52] (0, 0) _ rfl (by (with_reducible repeat (first | refine blk_drewN ?_ _ | refine blk_drew ?_ | refine blk_alloc ?_ _)); refine blk_put (cs := #[.int .i64 3, .string (⟨#[]⟩ : ByteArray), .int .i64 0, .slice none 0 0, .slice none 0 0]) ?_ 4 _ rfl; (with_reducible repeat (first | refine blk_drewN ?_ _ | refine blk_drew ?_ | refine blk_alloc ?_ _)); refine blk_put (cs := #[.int .i64 3, .string (⟨#[]⟩ : ByteArray), .int .i64 0, .slice none 0 0, .slice none 0 0]) ?_ 3 _ rfl; (with_reducible repeat (first | refine blk_drewN ?_ _ | refine blk_drew ?_ | refine blk_alloc ?_ _)); refine blk_put (cs := #[.int .i64 3, .string (⟨#[]⟩ : ByteArray), .int .i64 0, .slice none 0 0, .slice none 0 0]) ?_ 2 _ rfl; (with_reducible repeat (first | refine blk_drewN ?_ _ | refine blk_drew ?_ | refine blk_alloc ?_ _)); refine blk_put (cs := #[.int .i64 3, .string (⟨#[]⟩ : ByteArray), .int .i64 0, .slice none 0 0, .slice none 0 0]) ?_ 1 _ rfl; (with_reducible repeat (first | refine blk_drewN ?_ _ | refine blk_drew ?_ | refine blk_alloc ?_ _)); refine blk_put (cs := #[.int .i64 0, .string (⟨#[]⟩ : ByteArray), .int .i64 0, .slice none 0 0, .slice none 0 0]) ?_ 0 _ rfl; (with_reducible repeat (first | refine blk_drewN ?_ _ | refine blk_drew ?_ | refine blk_alloc ?_ _)); exact BK213.out) Tryd.underlying26 rfl (by kernel_rfl)) rfl ?_
              exact ⟨_, _, by first | rfl | (simp [errW_none, errW_some] <;> rfl) | (simp [*, errW_none, errW_some] <;> rfl), by first | exact Kd.R_nil _ _ _ _ _ | exact Kd.N_nil _ _ _ _ _ | exact Kd.V_nil _ _ _ _ _ | exact Kd.Q_nil _ _ _ _ _ | exact Kd.S_nil _ _ _ _ _, by (with_reducible repeat (first | apply Kd.R_alloc | apply Kd.R_drewN | apply Kd.R_drew)); exact Kd.R_mono (Kd.R_far (p := ⟨gb213, 4, none⟩) (Kd.R_far (p := ⟨gb213, 3, none⟩) (Kd.R_far (p := ⟨gb213, 2, none⟩) (Kd.R_far (p := ⟨gb213, 1, none⟩) (Kd.R_far (p := ⟨gb213, 0, none⟩) (Kd.R_mono HO_238004.out (fun k_ hk => (⟨hk, hk.1⟩ : _ ∧ k_ ≠ gb213))) (fun _ hk => hk.2) (.int .i64 3)) (fun _ hk => hk.2) (.string (⟨#[]⟩ : ByteArray))) (fun _ hk => hk.2) (.int .i64 0)) (fun _ hk => hk.2) (.slice none 0 0)) (fun _ hk => hk.2) (.slice Ao52 x238004_2.length co52)) (fun _ hk => (by simp [Value.ownBlock])), by repeat (first | (with_reducible first | exact HI0.out | apply IsS78.alloc | apply IsS78.drewN | apply IsS78.drew | apply IsS78.set_1 | refine IsS78.far ?_ NB0_213.out _ | refine IsS78.far ?_ NB0_237.out _) | exact HI0.out), by repeat (first | (with_reducible first | exact HB.out | apply below_alloc | apply pw_below_drewN | apply below_drew1 | refine below_set ?_ (IsS78.ge HI0.out) | refine below_set ?_ GE213.out | refine below_set ?_ GE237.out) | exact HB.out), by repeat (first | (with_reducible first | exact HK.out | apply KeepBut.set_ | apply keep_drewN | apply keep_drew | apply keep_alloc | refine keep_far ?_ GW213.out _ | refine keep_far ?_ GW237.out _) | exact HK.out)⟩

end Go.Proofs.YteeepenncddnjaaDoor.Q
end
section
namespace Go.Proofs.YteeepenncddnjaaDoor
open Go.RowKit Go.Proofs.YteeepenncddnjaaDoorW.PrintWords Go.Proofs.YteeepenncddnjaaDoor.Q
set_option linter.unusedVariables false
theorem ev_name (a : ByteArray) : spec_l1Name.f a = some ((1 : Int), a, (0 : Int), ([] : List Int), ([] : List Fm)) := rfl
theorem ev_some {s : List Int} (hs : Bts s) : ∀ d : Nat, d ≤ 4 → ∀ p : Nat, p + Bn d ≤ 900000 →
    ∃ (x : Fm) (q : Nat), q ≤ p + Bn d ∧ x.tot ≤ Bn d ∧ Ev (fun k => spec_l1Some.f k s (p : Int) (d : Int)) (x.f0, x.f1, x.f2, x.f3, x.f4, (q : Int)) := by
  have leaf : ∀ (d : Nat) (p : Nat), p ≤ 900002 → ∃ (x : Fm) (q : Nat), q ≤ p + 2 ∧ x.tot ≤ 13 ∧ Ev (fun k => spec_l1Some.j0 k (d : Int) true s (p : Int)) (x.f0, x.f1, x.f2, x.f3, x.f4, (q : Int)) := by
    intro d p hp
    obtain ⟨v, hv, e1⟩ := ev_pick hs p (by omega) 4 (by omega)
    by_cases h0 : v = 0
    · obtain ⟨n, hn, e2⟩ := ev_num hs (p + 1) (by omega) [0, 1, 2, 7, 42, 999] (by simp) (by simp)
      refine ⟨⟨2, ⟨#[]⟩, n, [], []⟩, p + 2, by omega, by simp [Fm.tot, totL, ByteArray.size], ?_⟩
      refine Ev.step (fun k => by rw [spec_l1Some.j0]) (Ev.pos rfl (Ev.bind e1 (Ev.pos h0 (Ev.bind e2 ?_))))
      exact Ev.now _
    · obtain ⟨n, hn, e2⟩ := ev_of hs (p + 1) (by omega) nms (by simp) (by simp)
      refine ⟨⟨1, n, 0, [], []⟩, p + 2, by omega, ?_, ?_⟩
      rotate_left
      · refine Ev.step (fun k => by rw [spec_l1Some.j0]) (Ev.pos rfl (Ev.bind e1 (Ev.neg h0 (Ev.bind e2 (Ev.bind (g := fun _ => _) (Ev.some (ev_name n)) ?_)))))
        exact Ev.now _
      · have := names_small n hn
        simp [Fm.tot, totL]; omega
  intro d
  induction d with
  | zero =>
    intro hd p hp
    obtain ⟨x, q, h1, h2, h3⟩ := leaf 0 p (by omega)
    refine ⟨x, q, by have : Bn 0 = 13 := rfl; omega, h2, Ev.step (fun k => by rw [spec_l1Some.f]) ?_⟩
    exact Ev.pos rfl h3
  | succ d ih =>
    intro hd p hp
    have hB := Bn_pos d
    have hBs : Bn (d + 1) = 13 + 3 * (Bn d + 1) := rfl
    have hB4 := Bn_le (d := d) (by omega)
    obtain ⟨v, hv, e1⟩ := ev_pick hs p (by omega) 3 (by omega)
    cases hz : (v == 0) with
    | true =>
      obtain ⟨x, q, h1, h2, h3⟩ := leaf (d + 1) (p + 1) (by omega)
      refine ⟨x, q, by have : Bn (d + 1) = 13 + 3 * (Bn d + 1) := rfl; omega, by have : Bn (d + 1) = 13 + 3 * (Bn d + 1) := rfl; omega, Ev.step (fun k => by rw [spec_l1Some.f]) (Ev.neg (by omega) (Ev.bind e1 ?_))⟩
      dsimp only
      rw [hz]
      exact h3
    | false =>
      obtain ⟨n, hn, e2⟩ := ev_pick hs (p + 1) (by omega) 4 (by omega)
      obtain ⟨m, rfl⟩ := Int.eq_ofNat_of_zero_le (hn (by omega)).1
      have hm : m ≤ 3 := by have := (hn (by omega)).2; omega
      obtain ⟨r, ⟨x, q, rfl, h1, h2⟩, hr⟩ := ev_loop (L := fun k (t : Int × Int × List Fm) => spec_l1Some.l0 k ((d + 1 : Nat) : Int) t.1 s t.2.1 3 ⟨#[]⟩ 0 t.2.2)
        (fun i t => ∃ q : Nat, t.1 = ((m - i : Nat) : Int) ∧ t.2.1 = (q : Int) ∧ q ≤ p + 2 + i * Bn d ∧ totL t.2.2 ≤ i * (Bn d + 1) ∧ t.2.2.length = i) m
        (fun r => ∃ (x : Fm) (q : Nat), r = (x.f0, x.f1, x.f2, x.f3, x.f4, (q : Int)) ∧ q ≤ p + 2 + m * Bn d ∧ x.tot ≤ m * (Bn d + 1)) (by
          rintro i ⟨t1, t2, t3⟩ hi ⟨q, rfl, rfl, hq, ht, hl⟩
          dsimp only at ht hl hq
          have hi3 : i * Bn d ≤ 2 * Bn d := Nat.mul_le_mul_right _ (by omega)
          obtain ⟨y, q', h1, h2, h3⟩ := ih (by omega) q (by omega)
          refine ⟨(((m - (i + 1) : Nat) : Int), (q' : Int), t3 ++ [y]), ⟨q', rfl, rfl, ?_, ?_, by simp [hl]⟩, fun r hr => ?_⟩
          · rw [Nat.succ_mul]; omega
          · rw [totL_append, Nat.succ_mul]; simp only [totL]; omega
          · refine Ev.step (fun k => by rw [spec_l1Some.l0]) (Ev.pos (by show ((m - i : Nat) : Int) > 0; omega) ?_)
            rw [show wrap64 (((d + 1 : Nat) : Int) - 1) = (d : Int) from by rw [wr_in (by omega) (by omega)]; omega]
            refine Ev.bind h3 (Ev.pos (by show t3.length < _; change t3.length = i at hl; omega) ?_)
            dsimp only
            rw [Fm.eta, show wrap64 (((m - i : Nat) : Int) - 1) = ((m - (i + 1) : Nat) : Int) from by rw [wr_in (by omega) (by omega)]; omega]
            exact hr) (by
          rintro ⟨t1, t2, t3⟩ ⟨q, rfl, rfl, hq, ht, hl⟩
          refine ⟨_, ⟨⟨3, ⟨#[]⟩, 0, [], t3⟩, q, rfl, hq, by simp [Fm.tot, ByteArray.size]; omega⟩, Ev.step (fun k => by rw [spec_l1Some.l0]) (Ev.neg (by simp) (Ev.now _))⟩)
        (((m : Nat) : Int), ((p + 2 : Nat) : Int), []) ⟨p + 2, by simp, rfl, by omega, by simp [totL], rfl⟩
      have hm3 : m * Bn d ≤ 3 * Bn d := Nat.mul_le_mul_right _ hm
      have hm4 : m * (Bn d + 1) ≤ 3 * (Bn d + 1) := Nat.mul_le_mul_right _ hm
      refine ⟨x, q, by have : Bn (d + 1) = 13 + 3 * (Bn d + 1) := rfl; omega, by have : Bn (d + 1) = 13 + 3 * (Bn d + 1) := rfl; omega, Ev.step (fun k => by rw [spec_l1Some.f]) (Ev.neg (by omega) (Ev.bind e1 ?_))⟩
      dsimp only
      rw [hz]
      refine Ev.step (fun k => by rw [spec_l1Some.j0]) (Ev.neg (by simp) (Ev.bind e2 ?_))
      exact hr
end Go.Proofs.YteeepenncddnjaaDoor
end
section
namespace Go.Proofs.YteeepenncddnjaaDoor
open Go.RowKit Go.Proofs.YteeepenncddnjaaDoorW.PrintWords Go.Proofs.YteeepenncddnjaaDoorW.PrintLast Go.Proofs.YteeepenncddnjaaDoorW.PrintMore
set_option linter.unusedVariables false
set_option linter.unusedSimpArgs false
/-- The form x reads in w, and in every world in which the blocks from lo on stand as_ in w. -/
structure FmS (lo : Nat) (w : World) (x : Fm) (A3 : Option Addr) (c3 : Nat) (A4 : Option Addr) (c4 : Nat) : Prop where mk ::
  out : ∀ W : World, (∀ b, lo ≤ b → b < w.heap.size → W.heap[b]? = w.heap[b]?) → FmIn W x A3 c3 A4 c4
theorem FmS.now {lo : Nat} {w : World} {x : Fm} {A3 : Option Addr} {c3 : Nat} {A4 : Option Addr} {c4 : Nat} (h : FmS lo w x A3 c3 A4 c4) : FmIn w x A3 c3 A4 c4 := h.out w (fun _ _ _ => rfl)
theorem FmS.move {lo : Nat} {w W : World} {x : Fm} {A3 : Option Addr} {c3 : Nat} {A4 : Option Addr} {c4 : Nat} (h : FmS lo w x A3 c3 A4 c4) (hs : w.heap.size ≤ W.heap.size) (hm : ∀ b, lo ≤ b → b < w.heap.size → W.heap[b]? = w.heap[b]?) : FmS lo W x A3 c3 A4 c4 :=
  ⟨fun W' h' => h.out W' (fun b h1 h2 => (h' b h1 (Nat.lt_of_lt_of_le h2 hs)).trans (hm b h1 h2))⟩
theorem FmS.later {lo : Nat} {w W : World} {x : Fm} {A3 : Option Addr} {c3 : Nat} {A4 : Option Addr} {c4 : Nat} (h : FmS lo w x A3 c3 A4 c4) (hb : Below w.heap.size w W) : FmS lo W x A3 c3 A4 c4 := h.move hb.size (fun b _ hlt => hb.block b hlt)
theorem FmS.keep {lo g : Nat} {w W : World} {x : Fm} {A3 : Option Addr} {c3 : Nat} {A4 : Option Addr} {c4 : Nat} (h : FmS lo w x A3 c3 A4 c4) (hk : KeepBut w W g none) (hg : g < lo) : FmS lo W x A3 c3 A4 c4 := h.move hk.1 (fun b h1 hlt => hk.2 b hlt (by omega) (by simp))
theorem FmS.low {lo lo' : Nat} {w : World} {x : Fm} {A3 : Option Addr} {c3 : Nat} {A4 : Option Addr} {c4 : Nat} (h : FmS lo w x A3 c3 A4 c4) (hl : lo' ≤ lo) : FmS lo' w x A3 c3 A4 c4 := ⟨fun W hW => h.out W (fun b h1 h2 => hW b (Nat.le_trans hl h1) h2)⟩
/-- A form and another value are handed back; the form lies in new memory. -/
def GetFS (w : World) (x : Fm) (v : Value) (e : Ending) (w' : World) : Prop := ∃ A3 c3 A4 c4, e = .returned (.tuple #[.agg #[.int .i64 x.f0, .string x.f1, .int .i64 x.f2, .slice A3 x.f3.length c3, .slice A4 x.f4.length c4], v]) ∧ FmS w.heap.size w' x A3 c3 A4 c4 ∧ Below w.heap.size w w'
theorem GetFS.V {w : World} {x : Fm} {v : Value} {e : Ending} {w' : World} (h : GetFS w x v e w') : GetFV w x v e w' := by
  obtain ⟨A3, c3, A4, c4, he, hs, hb⟩ := h
  exact ⟨A3, c3, A4, c4, he, hs.now, hb⟩
theorem NewF.toS {B : Nat} {w : World} {x : Fm} {v3 v4 : Value} (h : NewF B w x v3 v4) : ∃ A3 c3 A4 c4, v3 = .slice A3 x.f3.length c3 ∧ v4 = .slice A4 x.f4.length c4 ∧ FmS B w x A3 c3 A4 c4 := by
  obtain ⟨fp, ht, _, hge⟩ := h
  obtain ⟨A3, c3, A4, c4, rfl, rfl, _⟩ := ht.In
  refine ⟨A3, c3, A4, c4, rfl, rfl, ⟨fun W hW => ?_⟩⟩
  obtain ⟨B3, d3, B4, d4, e3, e4, hi⟩ := (ht.move (w1 := W) x (fun b hb => hW b (hge b hb) (ht.lt x b hb))).In
  injection e3 with a1 _ a2
  injection e4 with a3 _ a4
  subst a1 a2 a3 a4
  exact hi
theorem FmS.ofR {B : Nat} {w : World} {x : Fm} {ok ok' : Nat → Prop} {v3 v4 : Value} (h3 : kI.R 3 w B ok v3 x.f3) (h4 : kF.R 26 w B ok' v4 x.f4) : ∃ A3 c3 A4 c4, v3 = .slice A3 x.f3.length c3 ∧ v4 = .slice A4 x.f4.length c4 ∧ FmS B w x A3 c3 A4 c4 := by
  obtain ⟨A3, c3, A4, c4, rfl, rfl, _⟩ := FmIn.ofR h3 h4
  refine ⟨A3, c3, A4, c4, rfl, rfl, ⟨fun W hW => ?_⟩⟩
  have k3 := Kd.R_move (w1 := W) (Kd.R_bound h3) (fun k hk => hW k hk.2.1 hk.2.2.1)
  have k4 := Kd.R_move (w1 := W) (Kd.R_bound h4) (fun k hk => hW k hk.2.1 hk.2.2.1)
  obtain ⟨B3, d3, B4, d4, e3, e4, hi⟩ := FmIn.ofR k3 k4
  injection e3 with a1 _ a2
  injection e4 with a3 _ a4
  subst a1 a2 a3 a4
  exact hi
theorem Dr.ltW {w0 w W : World} {g : Nat} {s : List Int} {q : Int} (h : Dr w0 w g s q W) : g < W.heap.size := Nat.lt_of_lt_of_le h.lt h.size
/-- A form is drawn: it lies in new memory, and the source stands at q. -/
def DrGet (w0 : World) (g : Nat) (s : List Int) (q : Nat) (y : Fm) (w : World) (e : Ending) (w' : World) : Prop :=
  ∃ A3 c3 A4 c4, e = .returned (.agg #[.int .i64 y.f0, .string y.f1, .int .i64 y.f2, .slice A3 y.f3.length c3, .slice A4 y.f4.length c4]) ∧ FmS w.heap.size w' y A3 c3 A4 c4 ∧ IsRd w0 w' g s (q : Int) ∧ Below w0.heap.size w0 w' ∧ KeepBut w w' g none
theorem DrPost.get {w0 : World} {g : Nat} {s : List Int} {q : Nat} {y : Fm} {w : World} {e : Ending} {w' : World} (h : DrPost w0 g s (q : Int) y w e w') : DrGet w0 g s q y w e w' := by
  obtain ⟨v3, v4, rfl, hn, hi, hb, hk⟩ := h
  obtain ⟨A3, c3, A4, c4, rfl, rfl, hs⟩ := hn.toS
  exact ⟨A3, c3, A4, c4, rfl, hs, hi, hb, hk⟩
def SomeOk (s : List Int) (d : Nat) (p : Nat) (y : Fm) (q : Nat) : Prop := ∀ (g : Nat) (w0 w : World), IsRd w0 w g s (p : Int) → Below w0.heap.size w0 w → Calls Tryd.prog 30 #[.pointer (some ⟨g, 0, none⟩), .int .i64 (d : Int)] w (DrGet w0 g s q y w)
theorem some_ex {s : List Int} (hs : Bts s) (d : Nat) (hd : d ≤ 4) (p : Nat) (hp : p + Bn d ≤ 900000) : ∃ (y : Fm) (q : Nat), q ≤ p + Bn d ∧ y.tot ≤ Bn d ∧ SomeOk s d p y q := by
  obtain ⟨y, q, h1, h2, h3⟩ := ev_some hs d hd p hp
  obtain ⟨k, hk⟩ := h3.rounds
  refine ⟨y, q, h1, h2, fun g w0 w hi hb => (Q.spec_l1Some.calls k g s p d _ _ _ _ _ _ w0 w hi hb hk).mono ?_⟩
  rintro e w' ⟨v3, v4, rfl, r3, r4, hi', hb', hk'⟩
  obtain ⟨A3, c3, A4, c4, rfl, rfl, hs'⟩ := FmS.ofR r3 r4
  exact ⟨A3, c3, A4, c4, rfl, hs', hi', hb', hk'⟩
/-- num over a literal in its own block. -/
theorem num_lit {s : List Int} {l : List Int} {cs : Array Value} (hcs : cs.toList = l.map (Value.int .i64)) (hl : l.length ≤ 1000) {p : Nat} {n : Int} (h : Ev (fun k => Q.spec_l15Rd_num.f k s (p : Int) l) (n, ((p + 1 : Nat) : Int))) (g : Nat) (w0 W : World) (hi : IsRd w0 W g s (p : Int)) (hb : Below w0.heap.size w0 W) :
    Calls Tryd.prog 62 #[.pointer (some ⟨g, 0, none⟩), .slice (some ⟨W.heap.size, 0, none⟩) l.length l.length] (W.alloc (.cells cs 3 (0, 0))) (fun e w' => e = .returned (.int .i64 n) ∧ IsRd w0 w' g s ((p + 1 : Nat) : Int) ∧ Below w0.heap.size w0 w' ∧ KeepBut W w' g none) := by
  obtain ⟨k, hk⟩ := h.rounds
  have hlt := Q.IsS78.lt hi
  refine (Q.spec_l15Rd_num.calls k g s _ (some ⟨W.heap.size, 0, none⟩) _ l n _ w0 _ (Q.IsS78.below hi (below_new _ _)) (below_step hb (below_new _ _)) (reads_block (blk_new W _) hl hcs) (Nat.le_refl _) (fun ad e _ => by cases e; show W.heap.size ≠ g; omega) hk).mono ?_
  rintro e w' ⟨rfl, h1, h2, h3⟩
  exact ⟨rfl, h1, h2, (KeepBut.of_below (below_new W _) g none).trans h3 (.inl rfl)⟩
/-- The source is opened. -/
theorem open_at (l : List Int) (hl : ∀ z, z ∈ l → 0 ≤ z ∧ z < 256) : ∃ s, Bts s ∧ ∀ (A : Option Addr) (c : Nat) (w0 w : World), Below w0.heap.size w0 w → (Kd.int .u8).C w0 A l.length l → l.length ≤ c →
    Calls Tryd.prog 28 #[.slice A l.length c] w (fun e w' => ∃ g, e = .returned (.pointer (some ⟨g, 0, none⟩)) ∧ IsRd w0 w' g s ((0 : Nat) : Int) ∧ Below w0.heap.size w0 w' ∧ Below w.heap.size w w') := by
  obtain ⟨s, hs, he⟩ := ev_open l hl
  refine ⟨s, hs, fun A c w0 w hb hr hc => ?_⟩
  exact (Q.spec_l15Open.calls A c l s 0 w0 w hb hr hc he).mono fun e w' h => h
end Go.Proofs.YteeepenncddnjaaDoor
end
section
namespace Go.Proofs.YteeepenncddnjaaDoor
open Go.RowKit Go.Proofs.YteeepenncddnjaaDoorW.PrintWords Go.Proofs.YteeepenncddnjaaDoorW.PrintLast Go.Proofs.YteeepenncddnjaaDoorW.PrintMore
set_option linter.unusedVariables false
set_option linter.unusedSimpArgs false
end Go.Proofs.YteeepenncddnjaaDoor
end
section
namespace Go.Proofs.YteeepenncddnjaaDoor
open Go.RowKit Go.Proofs.YteeepenncddnjaaDoorW.PrintWords Go.Proofs.YteeepenncddnjaaDoorW.PrintLast Go.Proofs.YteeepenncddnjaaDoorW.PrintMore
set_option linter.unusedVariables false
set_option linter.unusedSimpArgs false
end Go.Proofs.YteeepenncddnjaaDoor
end
section
namespace Go.Proofs.YteeepenncddnjaaDoor
open Go.RowKit Go.Proofs.YteeepenncddnjaaDoorW.PrintWords Go.Proofs.YteeepenncddnjaaDoorW.PrintLast Go.Proofs.YteeepenncddnjaaDoorW.PrintMore
set_option linter.unusedVariables false
set_option linter.unusedSimpArgs false
theorem byteOk {n : Int} (h : (Lit.int .u8 n).wf = true) : 0 ≤ n ∧ n < 256 := by
  simp only [Lit.wf, Bool.and_eq_true, decide_eq_true_eq] at h
  have e1 : IntKind.u8.min = 0 := by decide
  have e2 : IntKind.u8.max = 255 := by decide
  omega
theorem sameT (x : Fm) (A3 : Option Addr) (c3 : Nat) (A4 : Option Addr) (c4 : Nat) (B3 : Option Addr) (d3 : Nat) (B4 : Option Addr) (d4 : Nat) (w : World) (h1 : FmIn w x A3 c3 A4 c4) (h2 : FmIn w x B3 d3 B4 d4) :
    Calls Tryd.prog 9 #[.agg #[.int .i64 x.f0, .string x.f1, .int .i64 x.f2, .slice A3 x.f3.length c3, .slice A4 x.f4.length c4], .agg #[.int .i64 x.f0, .string x.f1, .int .i64 x.f2, .slice B3 x.f3.length d3, .slice B4 x.f4.length d4]] w (Ret w (.bool true)) := by
  have := implSame_any x x A3 c3 A4 c4 B3 d3 B4 d4 w h1 h2
  rwa [eqB_self] at this
theorem RetF.get {w : World} {x : Fm} {e : Ending} {w' : World} (h : RetF w x e w') : GetF w x e w' := by
  obtain ⟨v3, v4, rfl, hn, hb⟩ := h
  obtain ⟨A3, c3, A4, c4, rfl, rfl, hi⟩ := hn.In
  exact ⟨A3, c3, A4, c4, rfl, hi, hb⟩
end Go.Proofs.YteeepenncddnjaaDoor
end
section
namespace Go.Proofs.YteeepenncddnjaaDoor
open Go.RowKit Go.Proofs.YteeepenncddnjaaDoorW.PrintWords Go.Proofs.YteeepenncddnjaaDoorW.PrintLast Go.Proofs.YteeepenncddnjaaDoorW.PrintMore
set_option linter.unusedVariables false
theorem ok_cases (x : Fm) : (FmOk x ∧ pB (FmOk x) = true) ∨ (¬ FmOk x ∧ pB (FmOk x) = false) := by
  by_cases h : FmOk x
  · exact .inl ⟨h, pB_iff.2 h⟩
  · exact .inr ⟨h, (pB_no h).symm⟩
theorem implValid' {x : Fm} {b : Bool} (h : pB (FmOk x) = b) (A3 : Option Addr) (c3 : Nat) (A4 : Option Addr) (c4 : Nat) (w : World) (hin : FmIn w x A3 c3 A4 c4) (ht : x.tot ≤ 1048576) :
    Calls Tryd.prog 11 #[.agg #[.int .i64 x.f0, .string x.f1, .int .i64 x.f2, .slice A3 x.f3.length c3, .slice A4 x.f4.length c4]] w (Ret w (.bool b)) := h ▸ implValid_any x A3 c3 A4 c4 w hin ht
end Go.Proofs.YteeepenncddnjaaDoor
end
section
namespace Go.Proofs.YteeepenncddnjaaDoor
open Go.RowKit Go.Proofs.YteeepenncddnjaaDoorW.PrintWords Go.Proofs.YteeepenncddnjaaDoorW.PrintLast Go.Proofs.YteeepenncddnjaaDoorW.PrintMore
set_option linter.unusedVariables false
set_option linter.unusedSimpArgs false
/-- A form in new memory is handed back. -/
def GetSF (w : World) (x : Fm) (e : Ending) (w' : World) : Prop := ∃ A3 c3 A4 c4, e = .returned (.agg #[.int .i64 x.f0, .string x.f1, .int .i64 x.f2, .slice A3 x.f3.length c3, .slice A4 x.f4.length c4]) ∧ FmS w.heap.size w' x A3 c3 A4 c4 ∧ Below w.heap.size w w'
theorem GetSF.F {w : World} {x : Fm} {e : Ending} {w' : World} (h : GetSF w x e w') : GetF w x e w' := by
  obtain ⟨A3, c3, A4, c4, he, hs, hb⟩ := h
  exact ⟨A3, c3, A4, c4, he, hs.now, hb⟩
set_option maxHeartbeats 4000000 in
set_option maxRecDepth 100000 in
theorem drawValidS (l : List Int) (hl : ∀ z, z ∈ l → 0 ≤ z ∧ z < 256) : ∃ (x : Fm), x.tot ≤ 7000 ∧ ∀ (A : Option Addr) (c : Nat) (w : World), (Kd.int .u8).C w A l.length l → l.length ≤ c → Calls Tryd.prog 38 #[.slice A l.length c] w (GetSF w x) := by
  obtain ⟨s, hs, hopen⟩ := open_at l hl
  obtain ⟨n0, hn0, e1⟩ := ev_num hs 0 (by omega) [3, 2, 4] (by simp) (by simp)
  obtain ⟨d, rfl, hd⟩ : ∃ d : Nat, n0 = (d : Int) ∧ d ≤ 4 := by
    simp only [List.mem_cons, List.not_mem_nil, or_false] at hn0
    rcases hn0 with rfl | rfl | rfl
    · exact ⟨3, rfl, by omega⟩
    · exact ⟨2, rfl, by omega⟩
    · exact ⟨4, rfl, by omega⟩
  have hB := Bn_le hd
  obtain ⟨x1, q1, a1, b1, c1⟩ := some_ex hs d hd 1 (by omega)
  have s1 := sizes_totL x1
  obtain ⟨x2, q2, a2, b2, f2, _, c2⟩ := dress_ex hs x1 (by omega) q1 (by omega)
  obtain ⟨x3, q3, a3, b3, f3, c3⟩ := mutate_ex hs x2 (by omega) q2 (by omega)
  obtain ⟨x4, q4, a4, b4, f4, c4⟩ := mutate_ex hs x3 (by omega) q3 (by omega)
  refine ⟨x4, by omega, fun A c w hr hc => ?_⟩
  have HO := Lib.hid hopen
  have HE1 := Lib.hid e1
  have HS1 := Lib.hid c1
  have HS2 := Lib.hid c2
  have HS3 := Lib.hid c3
  have HS4 := Lib.hid c4
  clear hopen e1 c1 c2 c3 c4 hs hn0 a1 a2 a3 a4 b1 b2 b3 b4 f2 f3 f4 s1 hB
  go_enter Tryd.func38, Tryd.ntmps38
  go_wp2_with fail
  refine (HO.out A c w _ (below_new _ _) hr hc).mono ?_
  rintro e w2 ⟨g, rfl, hi, hb, hb2⟩
  obtain ⟨kr, hbw⟩ := one_new hb2
  have HD := Lib.hid (Dr.new hi hb)
  have HG := Lib.hid (show g ≠ w.heap.size from Q.IsS78.ne_blk hi kr (by decide))
  have HKR := Lib.hid kr
  have HW2 := Lib.hid (show w.heap.size < w2.heap.size from blk_lt kr)
  clear hi hb hb2 kr hbw
  go_wp2_with fail
  refine (num_lit (l := [3, 2, 4]) rfl (by simp) HE1.out g w w2 HD.out.is HD.out.b).mono ?_
  rintro e w3 ⟨rfl, hi, hb, hk⟩
  replace HD := Lib.hid (HD.out.call hi hb hk)
  clear hi hb hk
  go_wp2_with fail
  refine (HS1.out g w w3 HD.out.is HD.out.b).mono ?_
  rintro e w4 ⟨A3, c3, A4, c4, rfl, hf, hi, hb, hk⟩
  have HF := Lib.hid hf.now
  replace HD := Lib.hid (HD.out.call hi hb hk)
  clear hi hb hk hf
  go_wp2_with fail
  refine (HS2.out g A3 c3 A4 c4 w w4 HD.out.is HD.out.b HF.out).mono ?_
  intro e w5 hp
  obtain ⟨B3, d3, B4, d4, rfl, hf, hi, hb, hk⟩ := hp.get
  have HF2 := Lib.hid hf.now
  replace HD := Lib.hid (HD.out.call hi hb hk)
  clear hi hb hk hf hp HF
  go_wp2_with fail
  refine (HS3.out g B3 d3 B4 d4 w w5 HD.out.is HD.out.b HF2.out).mono ?_
  intro e w6 hp
  obtain ⟨C3, j3, C4, j4, rfl, hf, hi, hb, hk⟩ := hp.get
  have HF3 := Lib.hid hf.now
  replace HD := Lib.hid (HD.out.call hi hb hk)
  clear hi hb hk hf hp HF2
  go_wp2_with fail
  refine (HS4.out g C3 j3 C4 j4 w w6 HD.out.is HD.out.b HF3.out).mono ?_
  intro e w7 hp
  obtain ⟨E3, k3, E4, k4, rfl, hf, hi, hb, hk⟩ := hp.get
  have HF4 := Lib.hid hf
  have HL6 := Lib.hid (show w.heap.size < w6.heap.size from by have := HD.out.ltW; have := HD.out.lt; have := HW2.out; have := HD.out.size; omega)
  replace HD := Lib.hid (HD.out.call hi hb hk)
  have hr0 : w7.heap[w.heap.size]? = some (.cells #[.int .i64 0, .string ⟨#[]⟩, .int .i64 0, .slice none 0 0, .slice none 0 0] 26) := HD.out.kp.blk HKR.out (fun e => HG.out e.symm) (by simp)
  obtain ⟨z0, z1, z2, z3, z4⟩ := fm_cells hr0
  obtain ⟨f0, f1, f2, f3, f4⟩ := fm_free hr0
  obtain ⟨st1, st2, st3⟩ := st5 hr0 (.int .i64 x4.f0) (.string x4.f1) (.int .i64 x4.f2) (.slice E3 x4.f3.length k3) (.slice E4 x4.f4.length k4)
  have HFIN := Lib.hid (show FmS w.heap.size _ x4 E3 k3 E4 k4 from (HF4.out.move (st3 0 w7 (Below.refl 0 w7) (Nat.zero_le _)).size (fun b h1 h2 => st2 b (by have := HL6.out; omega))).low (by have := HL6.out; omega))
  have HBN := Lib.hid (st3 _ _ HD.out.b (Nat.le_refl _))
  clear hi hb hk hf hp HF3 hr0 st1 st2 st3
  go_wp2_with fail
  refine bodyPost_ret (v := .agg #[.int .i64 x4.f0, .string x4.f1, .int .i64 x4.f2, .slice E3 x4.f3.length k3, .slice E4 x4.f4.length k4]) (by simp [results, Tryd.results38, go_sem, z0, z1, z2, z3, z4]) rfl ?_
  exact ⟨_, _, _, _, rfl, HFIN.out, HBN.out⟩
set_option maxHeartbeats 1000000 in
theorem drawStrip (l : List Int) (hl : ∀ z, z ∈ l → 0 ≤ z ∧ z < 256) : ∃ (x : Fm), x.tot ≤ 7000 ∧ ∀ (A : Option Addr) (c : Nat) (w : World), (Kd.int .u8).C w A l.length l → l.length ≤ c → Calls Tryd.prog 13 #[.slice A l.length c] w (GetF w x) := by
  obtain ⟨x, ht, hd⟩ := drawValidS l hl
  refine ⟨x, ht, fun A c w hr hc => ?_⟩
  have HC := Lib.hid (fun W (hb : Below w.heap.size w W) => hd A c W (Kd.C_below hr hb) hc)
  clear hd hr ht
  go_enter Tryd.func13, Tryd.ntmps13
  go_wp2_with fail
  refine (HC.out _ (below_new _ _)).mono ?_
  rintro e w1 ⟨D3, e3, D4, e4, rfl, hi, hb1⟩
  obtain ⟨k1, b1⟩ := one_new hb1
  obtain ⟨q0, q1, q2, q3, q4⟩ := fm_cells k1
  obtain ⟨f0, f1, f2, f3, f4⟩ := fm_free k1
  obtain ⟨st1, st2, st3⟩ := st5 k1 (.int .i64 x.f0) (.string x.f1) (.int .i64 x.f2) (.slice D3 x.f3.length e3) (.slice D4 x.f4.length e4)
  obtain ⟨z0, z1, z2, z3, z4⟩ := fm_cells st1
  have HF := Lib.hid (show FmS w.heap.size _ x D3 e3 D4 e4 from (hi.move (st3 0 w1 (Below.refl 0 w1) (Nat.zero_le _)).size (fun b h1 h2 => st2 b (by simp at h1; omega))).low (by simp))
  have HB := Lib.hid (st3 _ _ b1 (Nat.le_refl _))
  clear st1 st2 st3 hi hb1 k1 b1
  go_wp2_with fail
  refine bodyPost_ret (v := .agg #[.int .i64 x.f0, .string x.f1, .int .i64 x.f2, .slice D3 x.f3.length e3, .slice D4 x.f4.length e4]) (by simp [results, Tryd.results13, go_sem, z0, z1, z2, z3, z4]) rfl ?_
  exact ⟨_, _, _, _, rfl, HF.out.now, HB.out⟩
end Go.Proofs.YteeepenncddnjaaDoor
end
section
namespace Go.Proofs.YteeepenncddnjaaDoor
open Go.RowKit Go.Proofs.YteeepenncddnjaaDoorW.PrintWords Go.Proofs.YteeepenncddnjaaDoorW.PrintLast Go.Proofs.YteeepenncddnjaaDoorW.PrintMore
set_option linter.unusedVariables false
set_option linter.unusedSimpArgs false
/-- A row of strings is handed back. -/
def GetN (w : World) (r : List ByteArray) (e : Ending) (w' : World) : Prop := ∃ A c, e = .returned (.slice A r.length c) ∧ r.length ≤ c ∧ kS.C w' A r.length r ∧ Below w.heap.size w w'
theorem RetS.get {w : World} {r : List ByteArray} {e : Ending} {w' : World} (h : RetS w r e w') : GetN w r e w' := by
  obtain ⟨v, rfl, hn, hb⟩ := h
  obtain ⟨A, c, rfl, hc, hC⟩ := own_CS hn
  exact ⟨A, c, rfl, hc, hC, hb⟩
theorem nmStep_nodup {s : List ByteArray} (h : s.Nodup) (y : Fm) : (nmStep s y).Nodup := by
  unfold nmStep
  split
  · rename_i hc
    rw [List.nodup_append]
    exact ⟨h, by simp, fun a ha b hb e => hc.2 (by simp at hb; rw [← hb, ← e]; exact ha)⟩
  · exact h
mutual
theorem names_nodup : ∀ (x : Fm) {s : List ByteArray}, s.Nodup → (foldF nmStep x s).Nodup
  | ⟨a, b, c, d, ks⟩, s, h => by rw [foldF]; exact names_nodupL ks (nmStep_nodup h _)
theorem names_nodupL : ∀ (ks : List Fm) {s : List ByteArray}, s.Nodup → (foldFs nmStep ks s).Nodup
  | [], s, h => by rw [foldFs]; exact h
  | k :: ks, s, h => by rw [foldFs]; exact names_nodupL ks (names_nodup k h)
end
theorem mem_nmStep (s : List ByteArray) (y : Fm) (n : ByteArray) : n ∈ nmStep s y ↔ n ∈ s ∨ (y.f0 = 1 ∧ n = y.f1) := by
  unfold nmStep
  split
  · rename_i hc
    rw [List.mem_append, List.mem_singleton]
    constructor
    · rintro (h | h)
      · exact .inl h
      · exact .inr ⟨hc.1, h⟩
    · rintro (h | h)
      · exact .inl h
      · exact .inr h.2
  · rename_i hc
    constructor
    · exact .inl
    · rintro (h | ⟨h1, h2⟩)
      · exact h
      · exact Classical.byContradiction fun hn => hc ⟨h1, fun hm => hn (h2 ▸ hm)⟩
mutual
theorem mem_names : ∀ (x : Fm) (s : List ByteArray) (n : ByteArray), n ∈ foldF nmStep x s ↔ n ∈ s ∨ n ∈ foldF nmStep x []
  | ⟨a, b, c, d, ks⟩, s, n => by
    rw [foldF, foldF, mem_namesL ks, mem_namesL ks (nmStep [] _), mem_nmStep, mem_nmStep]
    simp [or_assoc]
theorem mem_namesL : ∀ (ks : List Fm) (s : List ByteArray) (n : ByteArray), n ∈ foldFs nmStep ks s ↔ n ∈ s ∨ n ∈ foldFs nmStep ks []
  | [], s, n => by rw [foldFs, foldFs]; simp
  | k :: ks, s, n => by
    rw [foldFs, foldFs, mem_namesL ks, mem_namesL ks (foldF nmStep k []), mem_names k]
    simp [or_assoc]
end
theorem bare_ch (x : Fm) : x.bare = x.chS (fun _ => []) := by
  induction x using Fm.ind with
  | h x ih =>
    rw [Fm.bare_eq, Fm.chS_eq, List.map_congr_left (fun k hk => ih k hk)]
    simp
theorem bare_bare (x : Fm) : x.bare.bare = x.bare := by rw [bare_ch x, bare_ch, chS_chS]
theorem fmOk_bare {x : Fm} (h : FmOk x) : FmOk x.bare := by
  rw [bare_ch, fmOk_chS h]
  exact AllNm.all (fun _ => scOk_nil) x
theorem tot_bareL (ks : List Fm) (h : ∀ k, k ∈ ks → k.bare.tot ≤ k.tot) : totL (ks.map Fm.bare) ≤ totL ks := by
  induction ks with
  | nil => exact Nat.le_refl _
  | cons k ks ih =>
    have h1 := ih (fun k' hk => h k' (List.mem_cons_of_mem _ hk))
    have h2 := h k List.mem_cons_self
    simp only [List.map_cons, totL]
    omega
theorem tot_bare (x : Fm) : x.bare.tot ≤ x.tot := by
  induction x using Fm.ind with
  | h x ih =>
    have h1 := tot_bareL x.f4 ih
    rw [Fm.bare_eq, Fm.tot_eq, Fm.tot_eq x]
    show x.f1.size + 0 + totL (x.f4.map Fm.bare) ≤ _
    omega
end Go.Proofs.YteeepenncddnjaaDoor
end
section
namespace Go.Proofs.YteeepenncddnjaaDoor
open Go.RowKit Go.Proofs.YteeepenncddnjaaDoorW.PrintWords Go.Proofs.YteeepenncddnjaaDoorW.PrintLast Go.Proofs.YteeepenncddnjaaDoorW.PrintMore
set_option linter.unusedVariables false
set_option linter.unusedSimpArgs false
/-- Neither a brace nor the end of a line. -/
def Pln (b : UInt8) : Prop := b.toNat ≠ 123 ∧ b.toNat ≠ 10
theorem dec_bytes : ∀ (n : Nat) (b : UInt8), b ∈ Lib.decDigits n → Pln b
  | n, b, h => by
    have one : ∀ k : Nat, k < 10 → Pln (UInt8.ofNat (48 + k)) := fun k hk => by
      unfold Pln
      rw [UInt8.toNat_ofNat']
      omega
    rw [Lib.decDigits] at h
    split at h
    · rename_i h1
      obtain rfl := List.mem_singleton.1 h
      exact one n h1
    · rcases List.mem_append.1 h with h | h
      · exact dec_bytes (n / 10) b h
      · obtain rfl := List.mem_singleton.1 h
        exact one (n % 10) (by omega)
termination_by n => n
decreasing_by omega
theorem itoa_bytes {n : Int} (h0 : 0 ≤ n) {b : UInt8} (h : b ∈ Lib.itoa n) : Pln b := by
  rw [itoa_pos n h0] at h
  exact dec_bytes _ b h
theorem name_bytes {s : ByteArray} (h : NmOk s) {b : UInt8} (hb : b ∈ s.data.toList) : Pln b := by
  rcases h with h | h | ⟨_, _, h⟩
  · rw [ByteArray.toList_eq] at h
    rw [h] at hb
    simp at hb
    subst hb
    exact ⟨by decide, by decide⟩
  · rw [ByteArray.toList_eq] at h
    rw [h] at hb
    simp at hb
    subst hb
    exact ⟨by decide, by decide⟩
  · obtain ⟨i, hi, rfl⟩ := List.getElem_of_mem hb
    have hi2 : i < s.size := by rw [Array.length_toList] at hi; exact hi
    have h1 := h i hi2
    have e : s[i] = s.data.toList[i] := rfl
    rw [e] at h1
    generalize s.data.toList[i] = c at h1
    refine ⟨fun hc => ?_, fun hc => ?_⟩
    · rw [hc] at h1; simp [letterB, digitB] at h1
    · rw [hc] at h1; simp [letterB, digitB] at h1
theorem join_mem {xs : List (List UInt8)} {sep : List UInt8} {b : UInt8} (h : b ∈ Lib.join xs sep) : b ∈ sep ∨ ∃ x, x ∈ xs ∧ b ∈ x := by
  cases xs with
  | nil => cases h
  | cons x r =>
    rw [Lib.join_cons] at h
    rcases List.mem_append.1 h with h | h
    · exact .inr ⟨x, List.mem_cons_self, h⟩
    · unfold Lib.joinTail at h
      obtain ⟨y, hy, hb⟩ := List.mem_flatten.1 h
      obtain ⟨z, hz, rfl⟩ := List.mem_map.1 hy
      rcases List.mem_append.1 hb with hb | hb
      · exact .inl hb
      · exact .inr ⟨z, List.mem_cons_of_mem _ hz, hb⟩
theorem txt_ne {n : Nat} {x : Fm} (h : IsOk n x) : x.txt ≠ [] := by
  cases n with
  | zero => exact absurd h (fun h => h)
  | succ n =>
    rw [Fm.txt_eq]
    by_cases h1 : x.f0 = 2
    · rw [if_pos h1, itoa_pos _ ((isOk2 h1).1 h).2.1]; exact decDigits_ne _
    · rw [if_neg h1]
      by_cases h2 : x.f0 = 1
      · rw [if_pos h2, nameT]
        have q := ((isOk1 h2).1 h).1
        intro e
        have e1 := (List.append_eq_nil_iff.1 e).1
        have e2 : x.f1.data.size = 0 := by rw [← Array.length_toList, e1]; rfl
        rcases q with q | q | q
        · rw [ByteArray.toList_eq, e1] at q; cases q
        · rw [ByteArray.toList_eq, e1] at q; cases q
        · have := q.1
          have e3 : x.f1.size = x.f1.data.size := rfl
          omega
      · rw [if_neg h2]; exact List.cons_ne_nil _ _
theorem bare_kids {z : Fm} (h : z.bare = z) : z.f3 = [] ∧ ∀ k, k ∈ z.f4 → k.bare = k := by
  rw [Fm.bare_eq] at h
  have e3 : z.f3 = [] := by have := congrArg Fm.f3 h; exact this.symm
  have e4 : z.f4.map Fm.bare = z.f4 := congrArg Fm.f4 h
  refine ⟨e3, fun k hk => ?_⟩
  obtain ⟨i, hi, rfl⟩ := List.getElem_of_mem hk
  have := congrArg (fun l => l[i]?) e4
  simpa [hi] using this
theorem txt_nobrace : ∀ (n : Nat) (z : Fm), IsOk n z → z.bare = z → ∀ b, b ∈ z.txt → b.toNat ≠ 123
  | 0, z, h, _, _, _ => absurd h (fun h => h)
  | n + 1, z, h, hz, b, hb => by
    rw [Fm.txt_eq] at hb
    have hk := bare_kids hz
    by_cases h1 : z.f0 = 2
    · rw [if_pos h1] at hb; exact (itoa_bytes ((isOk2 h1).1 h).2.1 hb).1
    · rw [if_neg h1] at hb
      by_cases h2 : z.f0 = 1
      · rw [if_pos h2, nameT, scTx, hk.1, if_pos (show ([] : List Int).length = 0 from rfl), List.append_nil] at hb
        exact (name_bytes ((isOk1 h2).1 h).1 hb).1
      · rw [if_neg h2] at hb
        have q := ((isOk3 h2 h1).1 h).2.2.2.2
        rcases List.mem_cons.1 hb with rfl | hb
        · decide
        · rcases List.mem_append.1 hb with hb | hb
          · rcases join_mem hb with hb | ⟨t, ht, hb⟩
            · obtain rfl := List.mem_singleton.1 hb; decide
            · rw [txtL_map] at ht
              obtain ⟨k, hkm, rfl⟩ := List.mem_map.1 ht
              exact txt_nobrace n k (q k hkm) (hk.2 k hkm) b hb
          · obtain rfl := List.mem_singleton.1 hb; decide
/-- What FormatForm prints of a form without scopes: no brace; nothing only if the form isn't valid. -/
theorem fmt_bare {z : Fm} (hz : z.bare = z) {s : ByteArray} (hs : fmtT z = s) : (∀ (i : Nat) (h : i < s.size), ((s[i].toNat : Int) == 123) = false) ∧ (s.toList = [] → ¬ FmOk z) := by
  subst hs
  unfold fmtT
  split
  · rename_i h
    have q := pB_iff.1 h
    refine ⟨fun i hi => ?_, fun e => ?_⟩
    · have hm : (B8 z.txt)[i] ∈ z.txt := List.getElem_mem (by rw [B8_size] at hi; exact hi)
      have := txt_nobrace _ _ q.1 hz _ hm
      rw [beq_eq_false_iff_ne]
      omega
    · rw [ByteArray.toList_eq] at e
      exact absurd e (txt_ne q.1)
  · rename_i h
    exact ⟨fun i hi => absurd hi (Nat.not_lt_zero i), fun _ hq => h (pB_iff.2 hq)⟩
theorem implFmt' {x : Fm} {s : ByteArray} (h : fmtT x = s) (A3 : Option Addr) (c3 : Nat) (A4 : Option Addr) (c4 : Nat) (w : World) (hin : FmIn w x A3 c3 A4 c4) (ht : x.tot ≤ 1048576) (htab : TabP w) :
    Calls Tryd.prog 12 #[.agg #[.int .i64 x.f0, .string x.f1, .int .i64 x.f2, .slice A3 x.f3.length c3, .slice A4 x.f4.length c4]] w (Ret w (.string s)) := h ▸ implFormat_any x A3 c3 A4 c4 w hin ht htab
theorem specFmt' {x : Fm} {s : ByteArray} (h : fmtT x = s) (A3 : Option Addr) (c3 : Nat) (A4 : Option Addr) (c4 : Nat) (w : World) (hin : FmIn w x A3 c3 A4 c4) (ht : x.tot ≤ 1048576) :
    Calls Tryd.prog 16 #[.agg #[.int .i64 x.f0, .string x.f1, .int .i64 x.f2, .slice A3 x.f3.length c3, .slice A4 x.f4.length c4]] w (Ret w (.string s)) := h ▸ specFormat_any x A3 c3 A4 c4 w hin ht
end Go.Proofs.YteeepenncddnjaaDoor
end
section
-- PRINTED WORDS (module Derived/Print/Sized.lean): go-gate-2's, for the rows of laws over slices: an AI agent of Go's test side, Tue Nov 17 2026; no person has read it. Lean checks it.
namespace Go.Proofs.YteeepenncddnjaaDoorW.PrintWords
open Go.ChangeShapes Go.WideShapes
/-- A row's slice of whole numbers is no longer than its weight allows. -/
theorem sized_ints {H : Type} {enc : TypeId × Value → H} {P : Program} {W : World} {base : Nat} {spare : Nat → Bool} {held : Bool} {t e : TypeId} {k : IntKind} {a : Option Addr} {len cap : Nat} {d : DataW H} {ps : List MemPlace} {ts : List TypeId} {ds : List (DataW H)} {j : Nat}
    (hsz : (DataW.weightsEach P ts ds).all (· ≤ reachBytes) = true) (ht : ts[j]? = some t) (hd : ds[j]? = some d) (hu : P.underlying t = some (.slice e)) (he : P.underlying e = some (.int k)) (hc : P.cellsOf e = 1) {B : Nat} (hB : P.bytesOf e = B)
    (h : DataW.Trod enc P W base spare held t (.slice a len cap) d ps) : len * B ≤ 140737488351232 := by
  obtain ⟨fuel, hf⟩ := h
  rcases open_ints hu he hc hf with ⟨hcs, _⟩ | ⟨x, l, c, zs, hcs, _, hl, _, hz, hx, _, _⟩
  · simp [Value.cells] at hcs
    obtain ⟨rfl, rfl, rfl⟩ := hcs
    simp
  · simp [Value.cells] at hcs
    obtain ⟨rfl, rfl, rfl⟩ := hcs
    obtain ⟨hx, _⟩ := Prod.mk.inj hx
    subst hx
    have z := sized_slice hsz ht hd hu
    rw [hB] at z
    have hl2 : len ≤ zs.length := by
      rw [hz]
      split
      · exact hl
      · exact Nat.le_refl _
    have h1 : (lits (H := H) k (zs.take len)).length + (lits (H := H) k (zs.drop len)).length = zs.length := by
      simp [lits]
      omega
    rw [h1] at z
    exact Nat.le_trans (Nat.mul_le_mul_right _ hl2) z
end Go.Proofs.YteeepenncddnjaaDoorW.PrintWords
end
