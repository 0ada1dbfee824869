/- Words for the laws' proofs (part 2): contracts of functions, and plain lemmas. -/
import Derived.Deep.RegionHeld3
import Derived.IntWalk
import Derived.Laws.BitsLemmas
import Derived.Lib.Bytealg
import Derived.Lib.LazyBuf
import Derived.Lib.Strings
import Derived.Shelf.Abstract
import Derived.Test.YteeepenncddnjaaDoorKe1
section
namespace Go.Proofs.YteeepenncddnjaaDoor.Q
open Go.RowKit Go.Proofs.YteeepenncddnjaaDoorW.PrintWords Go.Proofs.YteeepenncddnjaaDoorW.PrintLast Go.Proofs.YteeepenncddnjaaDoorW.PrintMore
attribute [local go_sem] max2_int min2_int max_two min_two max_three min_three max_four min_four   -- for this text's walks alone
set_option linter.unusedVariables false
set_option linter.unusedSimpArgs false

/-- A state of type 78 at block g of W; what its slices lead to came in by w0. -/
def IsS78 (w0 W : World) (g : Nat) (f0 : List Int) (f1 : Int) : Prop := ∃ A0 c0, W.heap[g]? = some (.cells #[.slice A0 f0.length c0, .int .i64 f1] 78 (0, 0)) ∧ w0.heap.size ≤ g ∧ Kd.C (Kd.int .u8) w0 A0 f0.length f0
theorem IsS78.grown {w0 W : World} {g : Nat} {f0 : List Int} {f1 : Int} {W1 : World} {row : Option Nat} (h : IsS78 w0 W g f0 f1) (hw : W.grownBy W1 row) (hne : some g ≠ row) : IsS78 w0 W1 g f0 f1 := by
  obtain ⟨A0, c0, hb, hg, hr0⟩ := h
  exact ⟨A0, c0, blk_grown hb hw hne, hg, hr0⟩
theorem IsS78.fresh {w0 W : World} {g : Nat} {f0 : List Int} {f1 : Int} (h : IsS78 w0 W g f0 f1) : ∀ k, W.heap.size ≤ k → k ≠ g := by
  obtain ⟨A0, c0, hb, hg, hr0⟩ := h
  exact Kd.freshB hb
theorem IsS78.kept {w0 W : World} {g : Nat} {f0 : List Int} {f1 : Int} {W1 : World} {S : Nat → Prop} (h : IsS78 w0 W g f0 f1) (hk : Kept W W1 S) (hne : ¬ S g) : IsS78 w0 W1 g f0 f1 := by
  obtain ⟨A0, c0, hb, hg, hr0⟩ := h
  exact ⟨A0, c0, blk_kept hb hk hne, hg, hr0⟩
theorem IsS78.below {w0 W : World} {g : Nat} {f0 : List Int} {f1 : Int} {W1 : World} (h : IsS78 w0 W g f0 f1) (hw : Below W.heap.size W W1) : IsS78 w0 W1 g f0 f1 := h.grown (grown_of_below hw none) (by simp)
theorem IsS78.alloc {w0 W : World} {g : Nat} {f0 : List Int} {f1 : Int} (h : IsS78 w0 W g f0 f1) (o : Obj) : IsS78 w0 (W.alloc o) g f0 f1 := h.below (below_alloc (Below.refl _ _) o)
theorem IsS78.drewN {w0 W : World} {g : Nat} {f0 : List Int} {f1 : Int} (h : IsS78 w0 W g f0 f1) (m : Nat) : IsS78 w0 (W.drewN m) g f0 f1 := h
theorem IsS78.drew {w0 W : World} {g : Nat} {f0 : List Int} {f1 : Int} (h : IsS78 w0 W g f0 f1) : IsS78 w0 W.drew g f0 f1 := h
theorem IsS78.at_ {w0 W : World} {g : Nat} {f0 : List Int} {f1 : Int} {w' : World} {m : Nat} (hq : W.drewN m = w') (h : IsS78 w0 W g f0 f1) : IsS78 w0 w' g f0 f1 := by subst hq; exact IsS78.drewN h m
theorem IsS78.apart {w0 W : World} {g : Nat} {f0 : List Int} {f1 : Int} {α : Type} {d : Kd α} {e : Nat} {base : Nat} {ok : Nat → Prop} {v : Value} {xs : List α} (h : IsS78 w0 W g f0 f1) (ho : d.R e W base ok v xs) (ht : ∀ q, q ∈ e :: d.E → q ≠ 78) : d.R e W base (fun k => ok k ∧ k ≠ g) v xs := by
  obtain ⟨A0, c0, hb, hg, hr0⟩ := h
  exact Kd.R_types ho hb ht
theorem IsS78.own_ne {w0 W : World} {g : Nat} {f0 : List Int} {f1 : Int} {α : Type} {d : Kd α} {e : Nat} {base : Nat} {ok : Nat → Prop} {v : Value} {xs : List α} (h : IsS78 w0 W g f0 f1) (ho : d.R e W base ok v xs) (ht : e ≠ 78) : some g ≠ v.ownBlock := by
  obtain ⟨A0, c0, hb, hg, hr0⟩ := h
  exact Kd.R_ne ho hb ht
theorem IsS78.lt {w0 W : World} {g : Nat} {f0 : List Int} {f1 : Int} (h : IsS78 w0 W g f0 f1) : g < W.heap.size := by
  obtain ⟨A0, c0, hb, hg, hr0⟩ := h
  exact blk_lt hb
theorem IsS78.ge {w0 W : World} {g : Nat} {f0 : List Int} {f1 : Int} (h : IsS78 w0 W g f0 f1) : w0.heap.size ≤ g := by
  obtain ⟨A0, c0, hb, hg, hr0⟩ := h
  exact hg
theorem IsS78.ne_blk {w0 W : World} {g : Nat} {f0 : List Int} {f1 : Int} {a : Nat} {cs : Array Value} {t : TypeId} {fr : Nat × Nat} (h : IsS78 w0 W g f0 f1) (hb2 : W.heap[a]? = some (.cells cs t fr)) (ht : t ≠ 78) : g ≠ a := by
  obtain ⟨A0, c0, hb, hg, hr0⟩ := h
  rintro rfl
  rw [hb] at hb2
  injection hb2 with hb2
  injection hb2 with _ ht2
  exact ht ht2.symm
theorem IsS78.far {w0 W : World} {g : Nat} {f0 : List Int} {f1 : Int} {p : Addr} (h : IsS78 w0 W g f0 f1) (hne : g ≠ p.block) (u : Value) : IsS78 w0 (W.setCell p u) g f0 f1 := by
  obtain ⟨A0, c0, hb, hg, hr0⟩ := h
  exact ⟨A0, c0, blk_far hb hne u, hg, hr0⟩
theorem cellS78_0 {W : World} {g : Nat} {A0 : Option Addr} {c0 : Nat} {f0 : List Int} {f1 : Int} (h : W.heap[g]? = some (.cells #[.slice A0 f0.length c0, .int .i64 f1] 78 (0, 0))) : W.cell? ⟨g, 0, none⟩ = some (.slice A0 f0.length c0) := (blk_cell h 0).trans rfl
theorem cellS78_1 {W : World} {g : Nat} {A0 : Option Addr} {c0 : Nat} {f0 : List Int} {f1 : Int} (h : W.heap[g]? = some (.cells #[.slice A0 f0.length c0, .int .i64 f1] 78 (0, 0))) : W.cell? ⟨g, 1, none⟩ = some (.int .i64 f1) := (blk_cell h 1).trans rfl
theorem IsS78.set_1 {w0 W : World} {g : Nat} {f0 : List Int} {f1 : Int} (h : IsS78 w0 W g f0 f1) (x : Int) : IsS78 w0 (W.setCell ⟨g, 1, none⟩ (.int .i64 x)) g f0 x := by
  obtain ⟨A0, c0, hb, hg, hr0⟩ := h
  exact ⟨A0, c0, by simpa using blk_set hb 1 (.int .i64 x), hg, hr0⟩
theorem IsS78.new (w0 W : World) (A0 : Option Addr) (c0 : Nat) (f0 : List Int) (f1 : Int) (hB : Below w0.heap.size w0 W) (hr0 : Kd.C (Kd.int .u8) w0 A0 f0.length f0) : IsS78 w0 (W.alloc (.cells #[.slice A0 f0.length c0, .int .i64 f1] 78)) W.heap.size f0 f1 := ⟨A0, c0, by simpa using heap_alloc_new W _, hB.size, hr0⟩

def spec_l15Open.f (l0 : List Int) : Option (List Int × Int) := if (l0.length : Int) > 2000 then (if 2000 ≤ (l0.length : Int) then (some (l0.take 2000, 0)) else (none)) else (some (l0, 0))
set_option maxHeartbeats 8000000 in
set_option maxRecDepth 100000 in
theorem spec_l15Open.calls (A0 : Option Addr) (c0 : Nat) (l0 : List Int) (r1 : List Int) (r2 : Int) (w0 w : World) (hB : Below w0.heap.size w0 w) (hr0 : Kd.C (Kd.int .u8) w0 A0 l0.length l0) (hc0 : l0.length ≤ c0) (h : spec_l15Open.f l0 = some (r1, r2)) :
    Calls Tryd.prog 28 #[.slice A0 l0.length c0] w fun e w' => ∃ g_ : Nat, e = .returned (.pointer (some ⟨g_, 0, none⟩)) ∧ IsS78 w0 w' g_ r1 r2 ∧ Below w0.heap.size w0 w' ∧ Below w.heap.size w w' := by
  have hu78 := Tryd.underlying78
  have HR0 := Aside0.mk hr0
  have HC0 := Aside0.mk hc0
  clear hr0 hc0
  have HBW := Aside0.mk (Below.refl w.heap.size w)
  have HW0 := Aside0.mk hB.size
  have HB := Aside0.mk hB
  clear hB
  have H : (if (l0.length : Int) > 2000 then (if 2000 ≤ (l0.length : Int) then (some (l0.take 2000, 0)) else (none)) else (some (l0, 0))) = some (r1, r2) := h
  clear h
  by_cases c2 : (l0.length : Int) > 2000
  · rw [if_pos c2] at H
    have c2b0 : decide (2000 < (l0.length : Int)) = true := decide_eq_true c2
    have c2b1 : decide (2000 < l0.length) = true := decide_eq_true (by omega)
    clear c2
    by_cases c3 : 2000 ≤ (l0.length : Int)
    · rw [if_pos c3] at H
      have c3b0 := eq_true c3
      have c3b1 : decide (2000 ≤ (l0.length : Int)) = true := decide_eq_true c3
      clear c3
      simp only [Option.some.injEq, Prod.mk.injEq] at H
      obtain ⟨rfl, rfl⟩ := H
      obtain ⟨i04, hi04, _, hsz4, _⟩ := info_parts info5
      obtain ⟨hcut4, hA4, hC4⟩ := print_take_of (P := Tryd.prog) (Value.int .u8) 0 22 5 .i64 Tryd.underlying22 hi04 hsz4 A0 c0 l0 2000 (by omega) (of_decide_eq_true (by first | (with_reducible assumption) | assumption)) HC0.out
      have HR101 := Aside0.mk (Kd.C_of_reads (h1 := fun _ => rfl) (hA4 _ (Kd.reads_of_C HR0.out)))
      have HC101 := Aside0.mk hC4
      clear hA4 hC4 hi04 hsz4
      go_enter Tryd.func28, Tryd.ntmps28
      go_wp2_with (first | ((with_reducible refine gate_dst (N := 10) rfl ?_); refine box_event ?hg (N := 10) ?hd (cs := #[.slice A0 (l0.take 2000).length c0, .int .i64 0]) (t := 78) ?hr ?_; (case hd => rfl); (case hg => rfl); (case hr => first | (go_simp; done) | (go_simp; rfl)); intro gb102 hg w5 hbox hb; have n0_ := Aside0.mk (below_step HBW.out hb); have n1_ := Aside0.mk (below_step (by repeat (first | (with_reducible first | exact HB.out | apply below_alloc | apply pw_below_drewN | apply below_drew1) | exact HB.out)) hb); have n2_ := Aside0.mk (hbox); have n3_ := Aside0.mk ((by rw [hg]; exact (below_size (by repeat (first | (with_reducible first | exact HBW.out | apply below_alloc | apply pw_below_drewN | apply below_drew1) | exact HBW.out))) : w.heap.size ≤ gb102)); have n4_ := Aside0.mk ((Nat.le_trans HW0.out (by rw [hg]; exact (below_size (by repeat (first | (with_reducible first | exact HBW.out | apply below_alloc | apply pw_below_drewN | apply below_drew1) | exact HBW.out))) : w.heap.size ≤ gb102) : w0.heap.size ≤ gb102)); clear HBW; clear HB; have HBW := n0_; have HB := n1_; have BK102 := n2_; have GW102 := n3_; have GE102 := n4_; clear n0_ n1_ n2_ n3_ n4_; clear hb hbox hg))
      go_ret
      exact ⟨_, rfl, (show IsS78 w0 _ gb102 (l0.take 2000) 0 from ⟨_, _, by (with_reducible repeat (first | refine blk_drewN ?_ _ | refine blk_drew ?_ | refine blk_alloc ?_ _)); exact BK102.out, GE102.out, HR101.out⟩), by repeat (first | (with_reducible first | exact HB.out | apply below_alloc | apply pw_below_drewN | apply below_drew1 | refine below_set ?_ GE102.out) | exact HB.out), by repeat (first | (with_reducible first | exact HBW.out | apply below_alloc | apply pw_below_drewN | apply below_drew1 | refine below_set ?_ GW102.out) | exact HBW.out)⟩
    · rw [if_neg c3] at H
      exact absurd H (by simp)
  · rw [if_neg c2] at H
    have c2b0 : decide (2000 < (l0.length : Int)) = false := decide_eq_false c2
    have c2b1 : decide (2000 < l0.length) = false := decide_eq_false (by omega)
    clear c2
    simp only [Option.some.injEq, Prod.mk.injEq] at H
    obtain ⟨rfl, rfl⟩ := H
    go_enter Tryd.func28, Tryd.ntmps28
    go_wp2_with (first | ((with_reducible refine gate_dst (N := 10) rfl ?_); refine box_event ?hg (N := 10) ?hd (cs := #[.slice A0 l0.length c0, .int .i64 0]) (t := 78) ?hr ?_; (case hd => rfl); (case hg => rfl); (case hr => first | (go_simp; done) | (go_simp; rfl)); intro gb103 hg w6 hbox hb; have n0_ := Aside0.mk (below_step HBW.out hb); have n1_ := Aside0.mk (below_step (by repeat (first | (with_reducible first | exact HB.out | apply below_alloc | apply pw_below_drewN | apply below_drew1) | exact HB.out)) hb); have n2_ := Aside0.mk (hbox); have n3_ := Aside0.mk ((by rw [hg]; exact (below_size (by repeat (first | (with_reducible first | exact HBW.out | apply below_alloc | apply pw_below_drewN | apply below_drew1) | exact HBW.out))) : w.heap.size ≤ gb103)); have n4_ := Aside0.mk ((Nat.le_trans HW0.out (by rw [hg]; exact (below_size (by repeat (first | (with_reducible first | exact HBW.out | apply below_alloc | apply pw_below_drewN | apply below_drew1) | exact HBW.out))) : w.heap.size ≤ gb103) : w0.heap.size ≤ gb103)); clear HBW; clear HB; have HBW := n0_; have HB := n1_; have BK103 := n2_; have GW103 := n3_; have GE103 := n4_; clear n0_ n1_ n2_ n3_ n4_; clear hb hbox hg))
    go_ret
    exact ⟨_, rfl, (show IsS78 w0 _ gb103 l0 0 from ⟨_, _, by (with_reducible repeat (first | refine blk_drewN ?_ _ | refine blk_drew ?_ | refine blk_alloc ?_ _)); exact BK103.out, GE103.out, HR0.out⟩), by repeat (first | (with_reducible first | exact HB.out | apply below_alloc | apply pw_below_drewN | apply below_drew1 | refine below_set ?_ GE103.out) | exact HB.out), by repeat (first | (with_reducible first | exact HBW.out | apply below_alloc | apply pw_below_drewN | apply below_drew1 | refine below_set ?_ GW103.out) | exact HBW.out)⟩

def spec_l15Rd_pick.j0 : Nat → Int → Bool → List Int → Int → Option (Int × Int)
  | 0, _, _, _, _ => none
  | k + 1, x1, x24, x1000, x1001 => if x24 = true then (some (0, x1001)) else (if (wrap64 (x1001 - 1)) < (x1000.length : Int) then (if 0 ≤ (wrap64 (x1001 - 1)) then (if x1 = 0 then (none) else (some (Int.tmod (wrap64 (rd x1000 (wrap64 (x1001 - 1)))) x1, x1001))) else (none)) else (if (x1000.length : Int) = 0 then (none) else (if 0 ≤ (Int.tmod (wrap64 (x1001 - 1)) (x1000.length : Int)) then (if (Int.tmod (wrap64 (x1001 - 1)) (x1000.length : Int)) < (x1000.length : Int) then (if 0 ≤ (Int.tmod (wrap64 ((wrap64 ((wrap64 (x1001 - 1)) * 7)) + 3)) (x1000.length : Int)) then (if (Int.tmod (wrap64 ((wrap64 ((wrap64 (x1001 - 1)) * 7)) + 3)) (x1000.length : Int)) < (x1000.length : Int) then (if x1 = 0 then (none) else (some (Int.tmod (Go.bits .xor .i64 (wrap64 ((wrap64 ((wrap64 ((wrap64 ((wrap64 (rd x1000 (Int.tmod (wrap64 (x1001 - 1)) (x1000.length : Int)))) * 131)) + (wrap64 ((wrap64 (rd x1000 (Int.tmod (wrap64 ((wrap64 ((wrap64 (x1001 - 1)) * 7)) + 3)) (x1000.length : Int)))) * 1117)))) + (wrap64 ((wrap64 (x1001 - 1)) * 29)))) + (wrap64 ((wrap64 (Int.tdiv (wrap64 (x1001 - 1)) (x1000.length : Int))) * 53)))) (wrap64 (Int.tdiv (wrap64 ((wrap64 ((wrap64 ((wrap64 ((wrap64 (rd x1000 (Int.tmod (wrap64 (x1001 - 1)) (x1000.length : Int)))) * 131)) + (wrap64 ((wrap64 (rd x1000 (Int.tmod (wrap64 ((wrap64 ((wrap64 (x1001 - 1)) * 7)) + 3)) (x1000.length : Int)))) * 1117)))) + (wrap64 ((wrap64 (x1001 - 1)) * 29)))) + (wrap64 ((wrap64 (Int.tdiv (wrap64 (x1001 - 1)) (x1000.length : Int))) * 53)))) 64))) x1, x1001))) else (none)) else (none)) else (none)) else (none))))
def spec_l15Rd_pick.f (k : Nat) (s0_0 : List Int) (s0_1 : Int) (a1 : Int) : Option (Int × Int) := if a1 < 1 then (spec_l15Rd_pick.j0 k a1 true s0_0 (wrap64 (s0_1 + 1))) else (spec_l15Rd_pick.j0 k a1 ((s0_0.length : Int) == 0) s0_0 (wrap64 (s0_1 + 1)))
theorem spec_l15Rd_pick.mono_l : ∀ k, (∀ y0 y1 y2 y3, LeO (spec_l15Rd_pick.j0 k y0 y1 y2 y3) (spec_l15Rd_pick.j0 (k + 1) y0 y1 y2 y3))
  | 0 => fun _ _ _ _ r h => by simp [spec_l15Rd_pick.j0] at h
  | k + 1 => by
    have ih0 := spec_l15Rd_pick.mono_l k
    · intro y0 y1 y2 y3
      unfold spec_l15Rd_pick.j0
      repeat' first
      | (with_reducible exact ih0 _ _ _ _)
      | (with_reducible exact LeO.refl _)
      | (with_reducible exact LeO.none _)
      | (with_reducible refine LeO.ite ?_ ?_)
      | (with_reducible refine LeO.bind ?_ (fun _ => ?_))
      | exact ih0 _ _ _ _
      | exact LeO.none _
      | refine LeO.ite ?_ ?_
      | refine LeO.bind ?_ (fun _ => ?_)
theorem spec_l15Rd_pick.mono : ∀ a0 a1 a2 k, LeO (spec_l15Rd_pick.f k a0 a1 a2) (spec_l15Rd_pick.f (k + 1) a0 a1 a2) := by
  intro a0 a1 a2 k
  have ih0 := spec_l15Rd_pick.mono_l k
  unfold spec_l15Rd_pick.f
  repeat' first
      | (with_reducible exact ih0 _ _ _ _)
      | (with_reducible exact LeO.refl _)
      | (with_reducible exact LeO.none _)
      | (with_reducible refine LeO.ite ?_ ?_)
      | (with_reducible refine LeO.bind ?_ (fun _ => ?_))
      | exact ih0 _ _ _ _
      | exact LeO.none _
      | refine LeO.ite ?_ ?_
      | refine LeO.bind ?_ (fun _ => ?_)
set_option maxHeartbeats 8000000 in
set_option maxRecDepth 100000 in
theorem spec_l15Rd_pick.calls (k : Nat) (g : Nat) (s0_0 : List Int) (s0_1 : Int) (a1 : Int) (r1 : Int) (r2 : Int) (w0 w : World) (hI : IsS78 w0 w g s0_0 s0_1) (hB : Below w0.heap.size w0 w) (h : spec_l15Rd_pick.f k s0_0 s0_1 a1 = some (r1, r2)) :
    Calls Tryd.prog 31 #[.pointer (some ⟨g, 0, none⟩), .int .i64 a1] w fun e w' => e = .returned (.int .i64 r1) ∧ IsS78 w0 w' g s0_0 r2 ∧ Below w0.heap.size w0 w' ∧ KeepBut w w' g none := by
  have HI0 := Aside0.mk hI
  have HK := Aside0.mk (KeepBut.refl w g none)
  have HL := Aside0.mk hB.size
  clear hI
  have HW0 := Aside0.mk hB.size
  have HB := Aside0.mk hB
  clear hB
  have H : (if a1 < 1 then (spec_l15Rd_pick.j0 k a1 true s0_0 (wrap64 (s0_1 + 1))) else (spec_l15Rd_pick.j0 k a1 ((s0_0.length : Int) == 0) s0_0 (wrap64 (s0_1 + 1)))) = some (r1, r2) := h
  clear h
  have HC3 := Aside0.mk H
  clear H
  obtain ⟨ASz4_0, cSz4_0, HGz4, hgz4, HSz4_0⟩ := HI0.out
  have hcz4_0 := cellS78_0 HGz4
  have hcz4_1 := cellS78_1 HGz4
  have hfz4_1 := blk_frozen HGz4 1
  clear HGz4 hgz4
  go_enter Tryd.func31, Tryd.ntmps31
  go_upto_region 2 with (fail)
  repeat (go_quiet (fail); go_upto_region 2 with (fail))
  go_cut [24] (fun v24 wc => ∃ (kq : Nat) (x24_2 : Bool), v24 = .bool x24_2 ∧ Aside0 (spec_l15Rd_pick.j0 kq a1 x24_2 s0_0 (wrap64 (s0_1 + 1)) = some (r1, r2)) ∧ Aside0 (kq ≤ k) ∧ Aside0 (IsS78 w0 wc g s0_0 (wrap64 (s0_1 + 1))) ∧ Aside0 (KeepBut w wc g none) ∧ Aside0 (Below w0.heap.size w0 wc))
  case first =>
    have H := HC3.out
    clear HC3
    by_cases c5 : a1 < 1
    · rw [if_pos c5] at H
      have c5b0 : decide (a1 < 1) = true := decide_eq_true c5
      clear c5
      (first | rw [c5b0] | (simp only [i64_w, i32_w]; rw [c5b0]) | skip)
      have H' := Aside0.mk H
      clear H
      go_wp2
      repeat (go_quiet (fail); try go_wp2)
      go_meet
      case rel => exact ⟨_, (true), (by first | rfl | (simp; done) | (simp [*]; done)), H', ⟨by first | omega | exact Nat.le_refl _⟩, ⟨by repeat (first | (with_reducible first | exact HI0.out | apply IsS78.alloc | apply IsS78.drewN | apply IsS78.drew | apply IsS78.set_1) | exact HI0.out)⟩, ⟨by repeat (first | (with_reducible first | exact HK.out | apply KeepBut.set_ | apply keep_drewN | apply keep_drew | apply keep_alloc) | exact HK.out)⟩, ⟨by repeat (first | (with_reducible first | exact HB.out | apply below_alloc | apply pw_below_drewN | apply below_drew1 | refine below_set ?_ (IsS78.ge HI0.out)) | exact HB.out)⟩⟩
    · rw [if_neg c5] at H
      have c5b0 : decide (a1 < 1) = false := decide_eq_false c5
      clear c5
      (first | rw [c5b0] | (simp only [i64_w, i32_w]; rw [c5b0]) | skip)
      have H' := Aside0.mk H
      clear H
      obtain ⟨ASz6_0, cSz6_0, HGz6, hgz6, HSz6_0⟩ := HI0.out
      have hcz6_0 := cellS78_0 HGz6
      have hcz6_1 := cellS78_1 HGz6
      have hfz6_1 := blk_frozen HGz6 1
      clear HGz6 hgz6
      go_wp2
      repeat (go_quiet (fail); try go_wp2)
      go_meet
      case rel => exact ⟨_, (((s0_0.length : Int) == 0)), (by first | rfl | (simp; done) | (simp [*]; done)), H', ⟨by first | omega | exact Nat.le_refl _⟩, ⟨by repeat (first | (with_reducible first | exact HI0.out | apply IsS78.alloc | apply IsS78.drewN | apply IsS78.drew | apply IsS78.set_1) | exact HI0.out)⟩, ⟨by repeat (first | (with_reducible first | exact HK.out | apply KeepBut.set_ | apply keep_drewN | apply keep_drew | apply keep_alloc) | exact HK.out)⟩, ⟨by repeat (first | (with_reducible first | exact HB.out | apply below_alloc | apply pw_below_drewN | apply below_drew1 | refine below_set ?_ (IsS78.ge HI0.out)) | exact HB.out)⟩⟩
  case rest =>
    clear HC3
    try clear p2
    try clear c3
    try clear c5
    try clear c5b0
    try clear p6
    try clear hcz4_0
    try clear hcz4_1
    try clear hcz6_0
    try clear hcz6_1
    try clear hfz4_1
    try clear hfz6_1
    obtain ⟨kq, x24_2, rfl, HA, HJ2, HI0, HK, HB⟩ := hcut
    cases kq with
    | zero => exact absurd HA.out (by simp [spec_l15Rd_pick.j0])
    | succ kj2 =>
      have H := HA.out
      clear HA
      simp only [spec_l15Rd_pick.j0] at H
      by_cases c7 : x24_2 = true
      · subst c7
        have H1 : (some (0, (wrap64 (s0_1 + 1)))) = some (r1, r2) := by rw [if_pos rfl] at H; exact H
        clear H
        have H := H1
        clear H1
        simp only [Option.some.injEq, Prod.mk.injEq] at H
        obtain ⟨rfl, rfl⟩ := H
        go_wp2
        repeat (go_quiet (fail); try go_wp2)
        go_ret
        exact ⟨by first | rfl | (simp [errW_none, errW_some] <;> rfl) | (simp [*, errW_none, errW_some] <;> rfl), by repeat (first | (with_reducible first | exact HI0.out | apply IsS78.alloc | apply IsS78.drewN | apply IsS78.drew | apply IsS78.set_1) | exact HI0.out), by repeat (first | (with_reducible first | exact HB.out | apply below_alloc | apply pw_below_drewN | apply below_drew1 | refine below_set ?_ (IsS78.ge HI0.out)) | exact HB.out), by repeat (first | (with_reducible first | exact HK.out | apply KeepBut.set_ | apply keep_drewN | apply keep_drew | apply keep_alloc) | exact HK.out)⟩
      · replace c7 := Bool.eq_false_iff.mpr c7
        subst c7
        have H1 : (if (wrap64 ((wrap64 (s0_1 + 1)) - 1)) < (s0_0.length : Int) then (if 0 ≤ (wrap64 ((wrap64 (s0_1 + 1)) - 1)) then (if a1 = 0 then (none) else (some (Int.tmod (wrap64 (rd s0_0 (wrap64 ((wrap64 (s0_1 + 1)) - 1)))) a1, (wrap64 (s0_1 + 1))))) else (none)) else (if (s0_0.length : Int) = 0 then (none) else (if 0 ≤ (Int.tmod (wrap64 ((wrap64 (s0_1 + 1)) - 1)) (s0_0.length : Int)) then (if (Int.tmod (wrap64 ((wrap64 (s0_1 + 1)) - 1)) (s0_0.length : Int)) < (s0_0.length : Int) then (if 0 ≤ (Int.tmod (wrap64 ((wrap64 ((wrap64 ((wrap64 (s0_1 + 1)) - 1)) * 7)) + 3)) (s0_0.length : Int)) then (if (Int.tmod (wrap64 ((wrap64 ((wrap64 ((wrap64 (s0_1 + 1)) - 1)) * 7)) + 3)) (s0_0.length : Int)) < (s0_0.length : Int) then (if a1 = 0 then (none) else (some (Int.tmod (Go.bits .xor .i64 (wrap64 ((wrap64 ((wrap64 ((wrap64 ((wrap64 (rd s0_0 (Int.tmod (wrap64 ((wrap64 (s0_1 + 1)) - 1)) (s0_0.length : Int)))) * 131)) + (wrap64 ((wrap64 (rd s0_0 (Int.tmod (wrap64 ((wrap64 ((wrap64 ((wrap64 (s0_1 + 1)) - 1)) * 7)) + 3)) (s0_0.length : Int)))) * 1117)))) + (wrap64 ((wrap64 ((wrap64 (s0_1 + 1)) - 1)) * 29)))) + (wrap64 ((wrap64 (Int.tdiv (wrap64 ((wrap64 (s0_1 + 1)) - 1)) (s0_0.length : Int))) * 53)))) (wrap64 (Int.tdiv (wrap64 ((wrap64 ((wrap64 ((wrap64 ((wrap64 (rd s0_0 (Int.tmod (wrap64 ((wrap64 (s0_1 + 1)) - 1)) (s0_0.length : Int)))) * 131)) + (wrap64 ((wrap64 (rd s0_0 (Int.tmod (wrap64 ((wrap64 ((wrap64 ((wrap64 (s0_1 + 1)) - 1)) * 7)) + 3)) (s0_0.length : Int)))) * 1117)))) + (wrap64 ((wrap64 ((wrap64 (s0_1 + 1)) - 1)) * 29)))) + (wrap64 ((wrap64 (Int.tdiv (wrap64 ((wrap64 (s0_1 + 1)) - 1)) (s0_0.length : Int))) * 53)))) 64))) a1, (wrap64 (s0_1 + 1))))) else (none)) else (none)) else (none)) else (none)))) = some (r1, r2) := by rw [if_neg (show ¬ (false = true) by decide)] at H; exact H
        clear H
        have H := H1
        clear H1
        by_cases c8 : (wrap64 ((wrap64 (s0_1 + 1)) - 1)) < (s0_0.length : Int)
        · rw [if_pos c8] at H
          have c8b0 : decide ((wrap64 ((wrap64 (s0_1 + 1)) - 1)) < (s0_0.length : Int)) = true := decide_eq_true c8
          clear c8
          obtain ⟨ji9, hji9⟩ : ∃ j_ : Int, (wrap64 ((wrap64 (s0_1 + 1)) - 1)) = j_ := ⟨_, rfl⟩
          replace H : (if 0 ≤ (ji9) then (if a1 = 0 then (none) else (some (Int.tmod (wrap64 (rd s0_0 (ji9))) a1, (wrap64 (s0_1 + 1))))) else (none)) = some (r1, r2) := by first | (rw [hji9] at H; exact H) | (simp only [hji9] at H ⊢; exact H)
          (try rw [hji9] at c8b0)
          have hji9w : (IntKind.i64.wrap ((wrap64 (s0_1 + 1)) - 1)) = ji9 := (i64_w _).trans hji9
          by_cases c10 : 0 ≤ (ji9)
          · rw [if_pos c10] at H
            have c10b0 : decide (0 ≤ (ji9)) = true := decide_eq_true c10
            clear c10
            by_cases c11 : a1 = 0
            · rw [if_pos c11] at H
              exact absurd H (by simp)
            · rw [if_neg c11] at H
              have c11b0 : (a1 == 0) = false := beq_eq_false_iff_ne.mpr c11
              have c11b1 : (a1 != 0) = true := bne_iff_ne.mpr c11
              simp only [Option.some.injEq, Prod.mk.injEq] at H
              obtain ⟨rfl, rfl⟩ := H
              obtain ⟨ASz12_0, cSz12_0, HGz12, hgz12, HSz12_0⟩ := HI0.out
              have hcz12_0 := cellS78_0 HGz12
              have hcz12_1 := cellS78_1 HGz12
              have hfz12_1 := blk_frozen HGz12 1
              clear HGz12 hgz12
              have p104 : 0 ≤ ((ji9) : Int) := of_decide_eq_true (by first | (with_reducible assumption) | assumption)
              have q104 : (ji9) < (s0_0.length : Int) := of_decide_eq_true (by first | (with_reducible assumption) | assumption)
              obtain ⟨ad104, e104, hx104_0⟩ := Kd.at_int HSz12_0 (ji9) p104 q104
              cases e104
              replace hx104_0 := pw_cell_below HB.out hx104_0
              replace p104 := eq_true p104
              replace q104 := eq_true q104
              go_wp2
              repeat (go_quiet (fail); try go_wp2)
              go_ret
              exact ⟨by first | rfl | (simp [errW_none, errW_some] <;> rfl) | (simp only [← hji9]; first | rfl | (simp [errW_none, errW_some] <;> rfl)) | (simp [*, errW_none, errW_some] <;> rfl), by repeat (first | (with_reducible first | exact HI0.out | apply IsS78.alloc | apply IsS78.drewN | apply IsS78.drew | apply IsS78.set_1) | exact HI0.out), by repeat (first | (with_reducible first | exact HB.out | apply below_alloc | apply pw_below_drewN | apply below_drew1 | refine below_set ?_ (IsS78.ge HI0.out)) | exact HB.out), by repeat (first | (with_reducible first | exact HK.out | apply KeepBut.set_ | apply keep_drewN | apply keep_drew | apply keep_alloc) | exact HK.out)⟩
          · rw [if_neg c10] at H
            exact absurd H (by simp)
        · rw [if_neg c8] at H
          have c8b0 : decide ((wrap64 ((wrap64 (s0_1 + 1)) - 1)) < (s0_0.length : Int)) = false := decide_eq_false c8
          clear c8
          by_cases c13 : (s0_0.length : Int) = 0
          · rw [if_pos c13] at H
            exact absurd H (by simp)
          · rw [if_neg c13] at H
            have c13b0 : ((s0_0.length : Int) == 0) = false := beq_eq_false_iff_ne.mpr c13
            have c13b1 : ((s0_0.length : Int) != 0) = true := bne_iff_ne.mpr c13
            have c13b2 : ¬ (s0_0 = []) := fun h_ => c13 (by rw [h_]; rfl)
            obtain ⟨ji14, hji14⟩ : ∃ j_ : Int, (Int.tmod (wrap64 ((wrap64 (s0_1 + 1)) - 1)) (s0_0.length : Int)) = j_ := ⟨_, rfl⟩
            replace H : (if 0 ≤ (ji14) then (if (ji14) < (s0_0.length : Int) then (if 0 ≤ (Int.tmod (wrap64 ((wrap64 ((wrap64 ((wrap64 (s0_1 + 1)) - 1)) * 7)) + 3)) (s0_0.length : Int)) then (if (Int.tmod (wrap64 ((wrap64 ((wrap64 ((wrap64 (s0_1 + 1)) - 1)) * 7)) + 3)) (s0_0.length : Int)) < (s0_0.length : Int) then (if a1 = 0 then (none) else (some (Int.tmod (Go.bits .xor .i64 (wrap64 ((wrap64 ((wrap64 ((wrap64 ((wrap64 (rd s0_0 (ji14))) * 131)) + (wrap64 ((wrap64 (rd s0_0 (Int.tmod (wrap64 ((wrap64 ((wrap64 ((wrap64 (s0_1 + 1)) - 1)) * 7)) + 3)) (s0_0.length : Int)))) * 1117)))) + (wrap64 ((wrap64 ((wrap64 (s0_1 + 1)) - 1)) * 29)))) + (wrap64 ((wrap64 (Int.tdiv (wrap64 ((wrap64 (s0_1 + 1)) - 1)) (s0_0.length : Int))) * 53)))) (wrap64 (Int.tdiv (wrap64 ((wrap64 ((wrap64 ((wrap64 ((wrap64 (rd s0_0 (ji14))) * 131)) + (wrap64 ((wrap64 (rd s0_0 (Int.tmod (wrap64 ((wrap64 ((wrap64 ((wrap64 (s0_1 + 1)) - 1)) * 7)) + 3)) (s0_0.length : Int)))) * 1117)))) + (wrap64 ((wrap64 ((wrap64 (s0_1 + 1)) - 1)) * 29)))) + (wrap64 ((wrap64 (Int.tdiv (wrap64 ((wrap64 (s0_1 + 1)) - 1)) (s0_0.length : Int))) * 53)))) 64))) a1, (wrap64 (s0_1 + 1))))) else (none)) else (none)) else (none)) else (none)) = some (r1, r2) := by first | (rw [hji14] at H; exact H) | (simp only [hji14] at H ⊢; exact H)
            by_cases c15 : 0 ≤ (ji14)
            · rw [if_pos c15] at H
              have c15b0 : decide (0 ≤ (ji14)) = true := decide_eq_true c15
              clear c15
              by_cases c16 : (ji14) < (s0_0.length : Int)
              · rw [if_pos c16] at H
                have c16b0 : decide ((ji14) < (s0_0.length : Int)) = true := decide_eq_true c16
                clear c16
                obtain ⟨ji17, hji17⟩ : ∃ j_ : Int, (Int.tmod (wrap64 ((wrap64 ((wrap64 ((wrap64 (s0_1 + 1)) - 1)) * 7)) + 3)) (s0_0.length : Int)) = j_ := ⟨_, rfl⟩
                replace H : (if 0 ≤ (ji17) then (if (ji17) < (s0_0.length : Int) then (if a1 = 0 then (none) else (some (Int.tmod (Go.bits .xor .i64 (wrap64 ((wrap64 ((wrap64 ((wrap64 ((wrap64 (rd s0_0 (ji14))) * 131)) + (wrap64 ((wrap64 (rd s0_0 (ji17))) * 1117)))) + (wrap64 ((wrap64 ((wrap64 (s0_1 + 1)) - 1)) * 29)))) + (wrap64 ((wrap64 (Int.tdiv (wrap64 ((wrap64 (s0_1 + 1)) - 1)) (s0_0.length : Int))) * 53)))) (wrap64 (Int.tdiv (wrap64 ((wrap64 ((wrap64 ((wrap64 ((wrap64 (rd s0_0 (ji14))) * 131)) + (wrap64 ((wrap64 (rd s0_0 (ji17))) * 1117)))) + (wrap64 ((wrap64 ((wrap64 (s0_1 + 1)) - 1)) * 29)))) + (wrap64 ((wrap64 (Int.tdiv (wrap64 ((wrap64 (s0_1 + 1)) - 1)) (s0_0.length : Int))) * 53)))) 64))) a1, (wrap64 (s0_1 + 1))))) else (none)) else (none)) = some (r1, r2) := by first | (rw [hji17] at H; exact H) | (simp only [hji17] at H ⊢; exact H)
                by_cases c18 : 0 ≤ (ji17)
                · rw [if_pos c18] at H
                  have c18b0 : decide (0 ≤ (ji17)) = true := decide_eq_true c18
                  clear c18
                  by_cases c19 : (ji17) < (s0_0.length : Int)
                  · rw [if_pos c19] at H
                    have c19b0 : decide ((ji17) < (s0_0.length : Int)) = true := decide_eq_true c19
                    clear c19
                    by_cases c20 : a1 = 0
                    · rw [if_pos c20] at H
                      exact absurd H (by simp)
                    · rw [if_neg c20] at H
                      have c20b0 : (a1 == 0) = false := beq_eq_false_iff_ne.mpr c20
                      have c20b1 : (a1 != 0) = true := bne_iff_ne.mpr c20
                      simp only [Option.some.injEq, Prod.mk.injEq] at H
                      obtain ⟨rfl, rfl⟩ := H
                      obtain ⟨ASz21_0, cSz21_0, HGz21, hgz21, HSz21_0⟩ := HI0.out
                      have hcz21_0 := cellS78_0 HGz21
                      have hcz21_1 := cellS78_1 HGz21
                      have hfz21_1 := blk_frozen HGz21 1
                      clear HGz21 hgz21
                      have p105 : 0 ≤ ((ji14) : Int) := of_decide_eq_true (by first | (with_reducible assumption) | assumption)
                      have q105 : (ji14) < (s0_0.length : Int) := of_decide_eq_true (by first | (with_reducible assumption) | assumption)
                      obtain ⟨ad105, e105, hx105_0⟩ := Kd.at_int HSz21_0 (ji14) p105 q105
                      cases e105
                      replace hx105_0 := pw_cell_below HB.out hx105_0
                      replace p105 := eq_true p105
                      replace q105 := eq_true q105
                      have p106 : 0 ≤ ((ji17) : Int) := of_decide_eq_true (by first | (with_reducible assumption) | assumption)
                      have q106 : (ji17) < (s0_0.length : Int) := of_decide_eq_true (by first | (with_reducible assumption) | assumption)
                      obtain ⟨ad106, e106, hx106_0⟩ := Kd.at_int HSz21_0 (ji17) p106 q106
                      obtain rfl : ad105 = ad106 := (by injection e106)
                      replace hx106_0 := pw_cell_below HB.out hx106_0
                      replace p106 := eq_true p106
                      replace q106 := eq_true q106
                      go_wp2
                      repeat (go_quiet (fail); try go_wp2)
                      go_ret
                      exact ⟨by first | rfl | (simp [errW_none, errW_some] <;> rfl) | (simp only [← hji14, ← hji17]; first | rfl | (simp [errW_none, errW_some] <;> rfl)) | (simp [*, errW_none, errW_some] <;> rfl), by repeat (first | (with_reducible first | exact HI0.out | apply IsS78.alloc | apply IsS78.drewN | apply IsS78.drew | apply IsS78.set_1) | exact HI0.out), by repeat (first | (with_reducible first | exact HB.out | apply below_alloc | apply pw_below_drewN | apply below_drew1 | refine below_set ?_ (IsS78.ge HI0.out)) | exact HB.out), by repeat (first | (with_reducible first | exact HK.out | apply KeepBut.set_ | apply keep_drewN | apply keep_drew | apply keep_alloc) | exact HK.out)⟩
                  · rw [if_neg c19] at H
                    exact absurd H (by simp)
                · rw [if_neg c18] at H
                  exact absurd H (by simp)
              · rw [if_neg c16] at H
                exact absurd H (by simp)
            · rw [if_neg c15] at H
              exact absurd H (by simp)

def spec_l15Rd_num.f (k : Nat) (s0_0 : List Int) (s0_1 : Int) (l1 : List Int) : Option (Int × Int) := (spec_l15Rd_pick.f k s0_0 s0_1 (l1.length : Int)).bind fun bt107 => (if 0 ≤ bt107.1 then (if bt107.1 < (l1.length : Int) then (some (rd l1 bt107.1, bt107.2)) else (none)) else (none))
theorem spec_l15Rd_num.mono : ∀ a0 a1 a2 k, LeO (spec_l15Rd_num.f k a0 a1 a2) (spec_l15Rd_num.f (k + 1) a0 a1 a2) := by
  intro a0 a1 a2 k
  unfold spec_l15Rd_num.f
  repeat' first
      | (with_reducible exact spec_l15Rd_pick.mono _ _ _ _)
      | (with_reducible exact LeO.refl _)
      | (with_reducible exact LeO.none _)
      | (with_reducible refine LeO.ite ?_ ?_)
      | (with_reducible refine LeO.bind ?_ (fun _ => ?_))
      | exact spec_l15Rd_pick.mono _ _ _ _
      | exact LeO.none _
      | refine LeO.ite ?_ ?_
      | refine LeO.bind ?_ (fun _ => ?_)
set_option maxHeartbeats 8000000 in
set_option maxRecDepth 100000 in
theorem spec_l15Rd_num.calls (k : Nat) (g : Nat) (s0_0 : List Int) (s0_1 : Int) (A1 : Option Addr) (c1 : Nat) (l1 : List Int) (r1 : Int) (r2 : Int) (w0 w : World) (hI : IsS78 w0 w g s0_0 s0_1) (hB : Below w0.heap.size w0 w) (hr1 : Kd.C (Kd.int .i64) w A1 l1.length l1) (hc1 : l1.length ≤ c1) (hf1 : ∀ ad, A1 = some ad → 0 < l1.length → ad.block ≠ g) (h : spec_l15Rd_num.f k s0_0 s0_1 l1 = some (r1, r2)) :
    Calls Tryd.prog 62 #[.pointer (some ⟨g, 0, none⟩), .slice A1 l1.length c1] w fun e w' => e = .returned (.int .i64 r1) ∧ IsS78 w0 w' g s0_0 r2 ∧ Below w0.heap.size w0 w' ∧ KeepBut w w' g none := by
  have HR1 := Aside0.mk hr1
  have HC1 := Aside0.mk hc1
  clear hr1 hc1
  have HI0 := Aside0.mk hI
  have HK := Aside0.mk (KeepBut.refl w g none)
  have HL := Aside0.mk hB.size
  clear hI
  have HW0 := Aside0.mk hB.size
  have HB := Aside0.mk hB
  clear hB
  have H : ((spec_l15Rd_pick.f k s0_0 s0_1 (l1.length : Int)).bind fun bt107 => (if 0 ≤ bt107.1 then (if bt107.1 < (l1.length : Int) then (some (rd l1 bt107.1, bt107.2)) else (none)) else (none))) = some (r1, r2) := h
  clear h
  replace H := Option.bind_eq_some_iff.mp H
  obtain ⟨⟨t107, t108⟩, A30, H⟩ := H
  replace H : (if 0 ≤ t107 then (if t107 < (l1.length : Int) then (some (rd l1 t107, t108)) else (none)) else (none)) = some (r1, r2) := H
  have A3 := Aside0.mk A30
  clear A30
  by_cases c4 : 0 ≤ t107
  · rw [if_pos c4] at H
    have c4b0 : decide (0 ≤ t107) = true := decide_eq_true c4
    clear c4
    by_cases c5 : t107 < (l1.length : Int)
    · rw [if_pos c5] at H
      have c5b0 : decide (t107 < (l1.length : Int)) = true := decide_eq_true c5
      clear c5
      simp only [Option.some.injEq, Prod.mk.injEq] at H
      obtain ⟨rfl, rfl⟩ := H
      go_enter Tryd.func62, Tryd.ntmps62
      go_wp2_with (first | ((with_reducible refine gate_callee (f := 31) rfl ?_); refine goesL_ (some 9) rfl rfl Tryd.func31 (by kernel_rfl) rfl #[.pointer (some ⟨g, 0, none⟩), .int .i64 (l1.length : Int)] rfl (by (try simp only [List.map_toArray, List.map_cons, List.map_nil]); first | done | rfl | (simp only [List.length_drop, List.length_take]; rfl)) ?_; (with_reducible refine (spec_l15Rd_pick.calls k g s0_0 s0_1 (l1.length : Int) t107 t108 w0 _ ?side1 ?side2 A3.out).mono ?_); (case side1 => repeat (first | (with_reducible first | exact HI0.out | apply IsS78.alloc | apply IsS78.drewN | apply IsS78.drew | apply IsS78.set_1) | exact HI0.out)); (case side2 => repeat (first | (with_reducible first | exact HB.out | apply below_alloc | apply pw_below_drewN | apply below_drew1 | refine below_set ?_ (IsS78.ge HI0.out)) | exact HB.out)); rintro e w6 ⟨rfl, hi, hb, hk⟩; refine ⟨_, rfl, ?_⟩; have n0_ := Aside0.mk (KeepBut.trans (by repeat (first | (with_reducible first | exact HK.out | apply KeepBut.set_ | apply keep_drewN | apply keep_drew | apply keep_alloc) | exact HK.out)) hk (.inl rfl)); have n1_ := Aside0.mk (hb); have n2_ := Aside0.mk (hi); clear HK; clear HB; clear HI0; have HK := n0_; have HB := n1_; have HI0 := n2_; clear n0_ n1_ n2_; (try clear hb); (try clear hb2); (try clear hk); (try clear hi); have p109 : 0 ≤ (t107 : Int) := of_decide_eq_true (by first | (with_reducible assumption) | assumption); have q109 : t107 < (l1.length : Int) := of_decide_eq_true (by first | (with_reducible assumption) | assumption); obtain ⟨ad109, e109, hx109_0⟩ := Kd.at_int HR1.out t107 p109 q109; cases e109; replace hx109_0 := keep_cell HK.out hx109_0 (by first | (rw [add_block]; exact hf1 _ rfl (by omega)) | exact hf1 _ rfl (by omega) | exact hf1 ad109 rfl (by omega)); replace p109 := eq_true p109; replace q109 := eq_true q109))
      go_ret
      exact ⟨by first | rfl | (simp [errW_none, errW_some] <;> rfl) | (simp [*, errW_none, errW_some] <;> rfl), by repeat (first | (with_reducible first | exact HI0.out | apply IsS78.alloc | apply IsS78.drewN | apply IsS78.drew | apply IsS78.set_1) | exact HI0.out), by repeat (first | (with_reducible first | exact HB.out | apply below_alloc | apply pw_below_drewN | apply below_drew1 | refine below_set ?_ (IsS78.ge HI0.out)) | exact HB.out), by repeat (first | (with_reducible first | exact HK.out | apply KeepBut.set_ | apply keep_drewN | apply keep_drew | apply keep_alloc) | exact HK.out)⟩
    · rw [if_neg c5] at H
      exact absurd H (by simp)
  · rw [if_neg c4] at H
    exact absurd H (by simp)

def spec_l1Name.f (a0 : ByteArray) : Option (Int × ByteArray × Int × List Int × (List (S26))) := some (1, a0, 0, ([] : List Int), ([] : List (S26)))
set_option maxHeartbeats 8000000 in
set_option maxRecDepth 100000 in
theorem spec_l1Name.calls (a0 : ByteArray) (r1 : Int) (r2 : ByteArray) (r3 : Int) (r4 : List Int) (r5 : List (S26)) (w : World) (h : spec_l1Name.f a0 = some (r1, r2, r3, r4, r5)) :
    Calls Tryd.prog 63 #[.string a0] w fun e w' => ∃ v3_ v4_ : Value, e = .returned (.agg #[.int .i64 r1, .string r2, .int .i64 r3, v3_, v4_]) ∧ Kd.R (Kd.int .i64) 3 w' w.heap.size (fun _ => True) v3_ r4 ∧ Kd.R k26 26 w' w.heap.size (fun k_ => some k_ ≠ (v3_ : Value).ownBlock) v4_ r5 ∧ Below w.heap.size w w' := by
  have hu26 := Tryd.underlying26
  have HB := Aside0.mk (Below.refl w.heap.size w)
  have H : (some (1, a0, 0, ([] : List Int), ([] : List (S26)))) = some (r1, r2, r3, r4, r5) := h
  clear h
  simp only [Option.some.injEq, Prod.mk.injEq] at H
  obtain ⟨rfl, rfl, rfl, rfl, rfl⟩ := H
  go_enter Tryd.func63, Tryd.ntmps63
  go_wp2_with (first | ((with_reducible refine gate_dst (N := 2) rfl ?_); refine box_event ?hg (N := 2) ?hd (cs := #[.int .i64 0, .string (⟨#[]⟩ : ByteArray), .int .i64 0, .slice none 0 0, .slice none 0 0]) (t := 26) ?hr ?_; (case hd => rfl); (case hg => rfl); (case hr => first | (go_simp; done) | (go_simp; rfl)); intro gb110 hg w2 hbox hb; have n0_ := Aside0.mk (below_step (by repeat (first | (with_reducible first | exact HB.out | apply below_alloc | apply pw_below_drewN | apply below_drew1) | exact HB.out)) hb); have n1_ := Aside0.mk (hbox); have n2_ := Aside0.mk ((by rw [hg]; exact (below_size (by repeat (first | (with_reducible first | exact HB.out | apply below_alloc | apply pw_below_drewN | apply below_drew1) | exact HB.out))) : w.heap.size ≤ gb110)); have n3_ := Aside0.mk ((by rw [hg]; exact (below_size (by repeat (first | (with_reducible first | exact HB.out | apply below_alloc | apply pw_below_drewN | apply below_drew1) | exact HB.out))) : w.heap.size ≤ gb110)); clear HB; have HB := n0_; have BK110 := n1_; have GW110 := n2_; have GE110 := n3_; clear n0_ n1_ n2_ n3_; clear hb hbox hg; have hcz3_0 : w2.cell? ⟨gb110, 0, none⟩ = some (.int .i64 0) := (blk_cell BK110.out 0).trans rfl; have hcz3_1 : w2.cell? ⟨gb110, 1, none⟩ = some (.string (⟨#[]⟩ : ByteArray)) := (blk_cell BK110.out 1).trans rfl; have hcz3_2 : w2.cell? ⟨gb110, 2, none⟩ = some (.int .i64 0) := (blk_cell BK110.out 2).trans rfl; have hcz3_3 : w2.cell? ⟨gb110, 3, none⟩ = some (.slice none 0 0) := (blk_cell BK110.out 3).trans rfl; have hcz3_4 : w2.cell? ⟨gb110, 4, none⟩ = some (.slice none 0 0) := (blk_cell BK110.out 4).trans rfl; have hfz3_0 := blk_frozen BK110.out 0; have hfz3_1 := blk_frozen BK110.out 1; have hfz3_2 := blk_frozen BK110.out 2; have hfz3_3 := blk_frozen BK110.out 3; have hfz3_4 := blk_frozen BK110.out 4))
  refine bodyPost_ret (results_cell_row rfl _ _ gb110 26 #[.int .i64 1, .string a0, .int .i64 0, .slice none 0 0, .slice none 0 0] (0, 0) _ rfl (by (with_reducible repeat (first | refine blk_drewN ?_ _ | refine blk_drew ?_ | refine blk_alloc ?_ _)); refine blk_put (cs := #[.int .i64 1, .string a0, .int .i64 0, .slice none 0 0, .slice none 0 0]) ?_ 4 _ rfl; (with_reducible repeat (first | refine blk_drewN ?_ _ | refine blk_drew ?_ | refine blk_alloc ?_ _)); refine blk_put (cs := #[.int .i64 1, .string a0, .int .i64 0, .slice none 0 0, .slice none 0 0]) ?_ 3 _ rfl; (with_reducible repeat (first | refine blk_drewN ?_ _ | refine blk_drew ?_ | refine blk_alloc ?_ _)); refine blk_put (cs := #[.int .i64 1, .string a0, .int .i64 0, .slice none 0 0, .slice none 0 0]) ?_ 2 _ rfl; (with_reducible repeat (first | refine blk_drewN ?_ _ | refine blk_drew ?_ | refine blk_alloc ?_ _)); refine blk_put (cs := #[.int .i64 1, .string (⟨#[]⟩ : ByteArray), .int .i64 0, .slice none 0 0, .slice none 0 0]) ?_ 1 _ rfl; (with_reducible repeat (first | refine blk_drewN ?_ _ | refine blk_drew ?_ | refine blk_alloc ?_ _)); refine blk_put (cs := #[.int .i64 0, .string (⟨#[]⟩ : ByteArray), .int .i64 0, .slice none 0 0, .slice none 0 0]) ?_ 0 _ rfl; (with_reducible repeat (first | refine blk_drewN ?_ _ | refine blk_drew ?_ | refine blk_alloc ?_ _)); exact BK110.out) Tryd.underlying26 rfl (by kernel_rfl)) rfl ?_
  exact ⟨_, _, by first | rfl | (simp [errW_none, errW_some] <;> rfl) | (simp [*, errW_none, errW_some] <;> rfl), by first | exact Kd.R_nil _ _ _ _ _ | exact Kd.N_nil _ _ _ _ _ | exact Kd.V_nil _ _ _ _ _ | exact Kd.Q_nil _ _ _ _ _ | exact Kd.S_nil _ _ _ _ _, by first | exact Kd.R_nil _ _ _ _ _ | exact Kd.N_nil _ _ _ _ _ | exact Kd.V_nil _ _ _ _ _ | exact Kd.Q_nil _ _ _ _ _ | exact Kd.S_nil _ _ _ _ _, by repeat (first | (with_reducible first | exact HB.out | apply below_alloc | apply pw_below_drewN | apply below_drew1 | refine below_set ?_ GE110.out) | exact HB.out)⟩

def spec_l15Rd_of.f (k : Nat) (s0_0 : List Int) (s0_1 : Int) (l1 : List ByteArray) : Option (ByteArray × Int) := (spec_l15Rd_pick.f k s0_0 s0_1 (l1.length : Int)).bind fun bt111 => (if 0 ≤ bt111.1 then (if bt111.1 < (l1.length : Int) then (some (rdOf ByteArray.empty l1 bt111.1, bt111.2)) else (none)) else (none))
theorem spec_l15Rd_of.mono : ∀ a0 a1 a2 k, LeO (spec_l15Rd_of.f k a0 a1 a2) (spec_l15Rd_of.f (k + 1) a0 a1 a2) := by
  intro a0 a1 a2 k
  unfold spec_l15Rd_of.f
  repeat' first
      | (with_reducible exact spec_l15Rd_pick.mono _ _ _ _)
      | (with_reducible exact LeO.refl _)
      | (with_reducible exact LeO.none _)
      | (with_reducible refine LeO.ite ?_ ?_)
      | (with_reducible refine LeO.bind ?_ (fun _ => ?_))
      | exact spec_l15Rd_pick.mono _ _ _ _
      | exact LeO.none _
      | refine LeO.ite ?_ ?_
      | refine LeO.bind ?_ (fun _ => ?_)
set_option maxHeartbeats 8000000 in
set_option maxRecDepth 100000 in
theorem spec_l15Rd_of.calls (k : Nat) (g : Nat) (s0_0 : List Int) (s0_1 : Int) (A1 : Option Addr) (c1 : Nat) (l1 : List ByteArray) (r1 : ByteArray) (r2 : Int) (w0 w : World) (hI : IsS78 w0 w g s0_0 s0_1) (hB : Below w0.heap.size w0 w) (hr1 : Kd.C Kd.string w A1 l1.length l1) (hc1 : l1.length ≤ c1) (hf1 : ∀ ad, A1 = some ad → 0 < l1.length → ad.block ≠ g) (h : spec_l15Rd_of.f k s0_0 s0_1 l1 = some (r1, r2)) :
    Calls Tryd.prog 64 #[.pointer (some ⟨g, 0, none⟩), .slice A1 l1.length c1] w fun e w' => e = .returned (.string r1) ∧ IsS78 w0 w' g s0_0 r2 ∧ Below w0.heap.size w0 w' ∧ KeepBut w w' g none := by
  have HR1 := Aside0.mk hr1
  have HC1 := Aside0.mk hc1
  clear hr1 hc1
  have HI0 := Aside0.mk hI
  have HK := Aside0.mk (KeepBut.refl w g none)
  have HL := Aside0.mk hB.size
  clear hI
  have HW0 := Aside0.mk hB.size
  have HB := Aside0.mk hB
  clear hB
  have H : ((spec_l15Rd_pick.f k s0_0 s0_1 (l1.length : Int)).bind fun bt111 => (if 0 ≤ bt111.1 then (if bt111.1 < (l1.length : Int) then (some (rdOf ByteArray.empty l1 bt111.1, bt111.2)) else (none)) else (none))) = some (r1, r2) := h
  clear h
  replace H := Option.bind_eq_some_iff.mp H
  obtain ⟨⟨t111, t112⟩, A30, H⟩ := H
  replace H : (if 0 ≤ t111 then (if t111 < (l1.length : Int) then (some (rdOf ByteArray.empty l1 t111, t112)) else (none)) else (none)) = some (r1, r2) := H
  have A3 := Aside0.mk A30
  clear A30
  by_cases c4 : 0 ≤ t111
  · rw [if_pos c4] at H
    have c4b0 : decide (0 ≤ t111) = true := decide_eq_true c4
    clear c4
    by_cases c5 : t111 < (l1.length : Int)
    · rw [if_pos c5] at H
      have c5b0 : decide (t111 < (l1.length : Int)) = true := decide_eq_true c5
      clear c5
      simp only [Option.some.injEq, Prod.mk.injEq] at H
      obtain ⟨rfl, rfl⟩ := H
      go_enter Tryd.func64, Tryd.ntmps64
      go_wp2_with (first | ((with_reducible refine gate_callee (f := 31) rfl ?_); refine goesL_ (some 9) rfl rfl Tryd.func31 (by kernel_rfl) rfl #[.pointer (some ⟨g, 0, none⟩), .int .i64 (l1.length : Int)] rfl (by (try simp only [List.map_toArray, List.map_cons, List.map_nil]); first | done | rfl | (simp only [List.length_drop, List.length_take]; rfl)) ?_; (with_reducible refine (spec_l15Rd_pick.calls k g s0_0 s0_1 (l1.length : Int) t111 t112 w0 _ ?side1 ?side2 A3.out).mono ?_); (case side1 => repeat (first | (with_reducible first | exact HI0.out | apply IsS78.alloc | apply IsS78.drewN | apply IsS78.drew | apply IsS78.set_1) | exact HI0.out)); (case side2 => repeat (first | (with_reducible first | exact HB.out | apply below_alloc | apply pw_below_drewN | apply below_drew1 | refine below_set ?_ (IsS78.ge HI0.out)) | exact HB.out)); rintro e w6 ⟨rfl, hi, hb, hk⟩; refine ⟨_, rfl, ?_⟩; have n0_ := Aside0.mk (KeepBut.trans (by repeat (first | (with_reducible first | exact HK.out | apply KeepBut.set_ | apply keep_drewN | apply keep_drew | apply keep_alloc) | exact HK.out)) hk (.inl rfl)); have n1_ := Aside0.mk (hb); have n2_ := Aside0.mk (hi); clear HK; clear HB; clear HI0; have HK := n0_; have HB := n1_; have HI0 := n2_; clear n0_ n1_ n2_; (try clear hb); (try clear hb2); (try clear hk); (try clear hi); have p113 : 0 ≤ (t111 : Int) := of_decide_eq_true (by first | (with_reducible assumption) | assumption); have q113 : t111 < (l1.length : Int) := of_decide_eq_true (by first | (with_reducible assumption) | assumption); obtain ⟨ad113, e113, hx113_0⟩ := Kd.at_string HR1.out t111 p113 q113; cases e113; replace hx113_0 := keep_cell HK.out hx113_0 (by first | (rw [add_block]; exact hf1 _ rfl (by omega)) | exact hf1 _ rfl (by omega) | exact hf1 ad113 rfl (by omega)); replace p113 := eq_true p113; replace q113 := eq_true q113))
      go_ret
      exact ⟨by first | rfl | (simp [errW_none, errW_some] <;> rfl) | (simp [*, errW_none, errW_some] <;> rfl), by repeat (first | (with_reducible first | exact HI0.out | apply IsS78.alloc | apply IsS78.drewN | apply IsS78.drew | apply IsS78.set_1) | exact HI0.out), by repeat (first | (with_reducible first | exact HB.out | apply below_alloc | apply pw_below_drewN | apply below_drew1 | refine below_set ?_ (IsS78.ge HI0.out)) | exact HB.out), by repeat (first | (with_reducible first | exact HK.out | apply KeepBut.set_ | apply keep_drewN | apply keep_drew | apply keep_alloc) | exact HK.out)⟩
    · rw [if_neg c5] at H
      exact absurd H (by simp)
  · rw [if_neg c4] at H
    exact absurd H (by simp)

end Go.Proofs.YteeepenncddnjaaDoor.Q
end
section
namespace Go.Proofs.YteeepenncddnjaaDoor
open Go.RowKit Go.Proofs.YteeepenncddnjaaDoorW.PrintWords Go.Proofs.YteeepenncddnjaaDoorW.PrintLast Go.Proofs.YteeepenncddnjaaDoorW.PrintMore
set_option linter.unusedVariables false
set_option linter.unusedSimpArgs false
abbrev IsRd := @Q.IsS78
/-- From w to W: the source in block g stands at q; no other block of w has changed. -/
structure Dr (w0 w : World) (g : Nat) (s : List Int) (q : Int) (W : World) : Prop where
  is : IsRd w0 W g s q
  b : Below w0.heap.size w0 W
  kp : KeepBut w W g none
  lt : g < w.heap.size
section
variable {w0 w W W1 : World} {g : Nat} {s : List Int} {q q' : Int}
theorem Dr.new (hi : IsRd w0 w g s q) (hb : Below w0.heap.size w0 w) : Dr w0 w g s q w := ⟨hi, hb, KeepBut.refl _ _ _, Q.IsS78.lt hi⟩
theorem Dr.size (h : Dr w0 w g s q W) : w.heap.size ≤ W.heap.size := keep_size h.kp
theorem Dr.later (h : Dr w0 w g s q W) (hb : Below W.heap.size W W1) : Dr w0 w g s q W1 := ⟨Q.IsS78.below h.is hb, below_step h.b hb, h.kp.trans (KeepBut.of_below hb g none) (.inl rfl), h.lt⟩
theorem Dr.call (h : Dr w0 w g s q W) (h1 : IsRd w0 W1 g s q') (h2 : Below w0.heap.size w0 W1) (h3 : KeepBut W W1 g none) : Dr w0 w g s q' W1 := ⟨h1, h2, h.kp.trans h3 (.inl rfl), h.lt⟩
theorem Dr.put (h : Dr w0 w g s q W) {b j : Nat} (hb : w.heap.size ≤ b) (u : Value) : Dr w0 w g s q (W.setCell ⟨b, j, none⟩ u) := by
  have := h.lt
  have hge := Q.IsS78.ge h.is
  exact ⟨Q.IsS78.far h.is (by show g ≠ b; omega) u, below_set h.b (by show w0.heap.size ≤ b; omega), keep_far h.kp (by exact hb) u, h.lt⟩
theorem Dr.grown {row : Option Nat} (h : Dr w0 w g s q W) (hg : W.grownBy W1 row) (hr : ∀ k, row = some k → w.heap.size ≤ k) : Dr w0 w g s q W1 := by
  have hl := h.lt
  have hge := Q.IsS78.ge h.is
  have hs := h.size
  have hne : ∀ k, k < w.heap.size → some k ≠ row := fun k hk he => by
    have := hr k he.symm
    omega
  refine ⟨Q.IsS78.grown h.is hg (hne g hl), ⟨hg.os.trans h.b.os, hg.tape.trans h.b.tape, hg.output.trans h.b.output, Nat.le_trans h.b.size hg.size, fun k hk => (hg.block k (by have := h.b.size; omega) (hne k (by omega))).trans (h.b.block k hk)⟩, ⟨Nat.le_trans hs hg.size, fun i hi h1 h2 => (hg.block i (by omega) (hne i hi)).trans (h.kp.2 i hi h1 h2)⟩, hl⟩
end
structure Dp (w0 w : World) (g : Nat) (s : List Int) (q : Int) (O1 O2 : Obj) (g3 : Nat) (k : Int) (n : ByteArray) (m : Int) (sc : List Int) (ks : List Fm) (v3 v : Value) (inner : List Value) (fp : List Nat) (W : World) : Prop where
  dr : Dr w0 w g s q W
  k1 : W.heap[w.heap.size]? = some O1
  k2 : W.heap[w.heap.size + 1]? = some O2
  k3 : W.heap[g3]? = some (.cells #[.int .i64 k, .string n, .int .i64 m, v3, v] 26 (0, 0))
  h3 : w.heap.size + 2 ≤ g3
  o3 : W.ownsRow 0 3 1 v3 sc.length (encI sc)
  o4 : W.ownsRow 0 26 5 v ks.length inner
  tr : TrL W ks inner fp
  nd : (obs v3 ++ (obs v ++ fp)).Nodup
  ge : ∀ b, b ∈ obs v3 ++ (obs v ++ fp) → w.heap.size + 2 ≤ b ∧ b ≠ g3
section
variable {w0 w W W1 : World} {g : Nat} {s : List Int} {q q' : Int} {O1 O2 : Obj} {g3 : Nat} {k m : Int} {n : ByteArray} {sc : List Int} {ks : List Fm} {v3 v : Value} {inner : List Value} {fp : List Nat}
theorem Dp.lt (h : Dp w0 w g s q O1 O2 g3 k n m sc ks v3 v inner fp W) : ∀ b, b ∈ obs v3 ++ (obs v ++ fp) → b < W.heap.size := by
  intro b hb
  rcases List.mem_append.1 hb with hb | hb
  · exact own_lt h.o3 b (obs_mem.1 hb)
  rcases List.mem_append.1 hb with hb | hb
  · exact own_lt h.o4 b (obs_mem.1 hb)
  · exact h.tr.lt _ b hb
theorem Dp.lts (h : Dp w0 w g s q O1 O2 g3 k n m sc ks v3 v inner fp W) : w.heap.size + 2 ≤ W.heap.size ∧ g3 < W.heap.size := by
  have h1 := blk_lt h.k2
  have h2 := blk_lt h.k3
  omega
/-- A world in which the source stands elsewhere, and the blocks from w on stand as_ they stood. -/
theorem Dp.move (h : Dp w0 w g s q O1 O2 g3 k n m sc ks v3 v inner fp W) (hd : Dr w0 w g s q' W1) (hm : ∀ b, w.heap.size ≤ b → b < W.heap.size → W1.heap[b]? = W.heap[b]?) : Dp w0 w g s q' O1 O2 g3 k n m sc ks v3 v inner fp W1 := by
  have hl := h.lt
  have hge := h.ge
  have hs := h.lts
  have h3 := h.h3
  have hmv : ∀ b, b ∈ obs v3 ++ (obs v ++ fp) → W1.heap[b]? = W.heap[b]? := fun b hb => hm b (by have := (hge b hb).1; omega) (hl b hb)
  exact ⟨hd, (hm _ (by omega) (by omega)).trans h.k1, (hm _ (by omega) (by omega)).trans h.k2, (hm _ (by omega) (by omega)).trans h.k3, h.h3,
    own_move h.o3 (fun b hb => hmv b (by simp [obs_mem, hb])), own_move h.o4 (fun b hb => hmv b (by simp [obs_mem, hb])), h.tr.move _ (fun b hb => hmv b (by simp [hb])), h.nd, h.ge⟩
theorem Dp.later (h : Dp w0 w g s q O1 O2 g3 k n m sc ks v3 v inner fp W) (hb : Below W.heap.size W W1) : Dp w0 w g s q O1 O2 g3 k n m sc ks v3 v inner fp W1 := h.move (h.dr.later hb) (fun b _ hlt => hb.block b hlt)
theorem Dp.call (h : Dp w0 w g s q O1 O2 g3 k n m sc ks v3 v inner fp W) (h1 : IsRd w0 W1 g s q') (h2 : Below w0.heap.size w0 W1) (h3 : KeepBut W W1 g none) : Dp w0 w g s q' O1 O2 g3 k n m sc ks v3 v inner fp W1 :=
  h.move (h.dr.call h1 h2 h3) (fun b hb hlt => h3.2 b hlt (by have := h.dr.lt; omega) (by simp))
/-- The form's own cells are written: kind, name, number. -/
theorem Dp.put {j : Nat} {u : Value} {k' m' : Int} {n' : ByteArray} (h : Dp w0 w g s q O1 O2 g3 k n m sc ks v3 v inner fp W) (hj : (W.setCell ⟨g3, j, none⟩ u).heap[g3]? = some (.cells #[.int .i64 k', .string n', .int .i64 m', v3, v] 26 (0, 0))) : Dp w0 w g s q O1 O2 g3 k' n' m' sc ks v3 v inner fp (W.setCell ⟨g3, j, none⟩ u) := by
  have hge := h.ge
  have h3 := h.h3
  have hmv : ∀ b, b ≠ g3 → (W.setCell ⟨g3, j, none⟩ u).heap[b]? = W.heap[b]? := fun b hb => Below.heap_setCell _ _ _ _ (by exact hb)
  exact ⟨h.dr.put (by omega) u, (hmv _ (by omega)).trans h.k1, (hmv _ (by omega)).trans h.k2, hj, h3,
    own_move h.o3 (fun b hb => hmv b (hge b (by simp [obs_mem, hb])).2), own_move h.o4 (fun b hb => hmv b (hge b (by simp [obs_mem, hb])).2), h.tr.move _ (fun b hb => hmv b (hge b (by simp [hb])).2), h.nd, h.ge⟩
/-- The form gets other scopes: a row that is none of its parts'. -/
theorem Dp.scopes {u : Value} {sc' : List Int} {row : Option Nat} (h : Dp w0 w g s q O1 O2 g3 k n m sc ks v3 v inner fp W) (hg : W.grownBy W1 row) (hrow : ∀ b, row = some b → w.heap.size + 2 ≤ b ∧ b ≠ g3 ∧ b ∉ obs v ∧ b ∉ fp) (ho : W1.ownsRow 0 3 1 u sc'.length (encI sc')) (hu : ∀ b, u.ownBlock = some b → w.heap.size + 2 ≤ b ∧ b ≠ g3 ∧ b ∉ obs v ∧ b ∉ fp) :
    Dp w0 w g s q O1 O2 g3 k n m sc' ks u v inner fp (W1.setCell ⟨g3, 3, none⟩ u) := by
  have hl := h.lt
  have hls := h.lts
  have hge := h.ge
  have h3 := h.h3
  have hnd := h.nd
  simp only [List.nodup_append, List.mem_append] at hnd hge hl
  obtain ⟨n3, ⟨n4, n5, n45⟩, n345⟩ := hnd
  have hne : ∀ b, b < w.heap.size + 2 ∨ b = g3 ∨ b ∈ obs v ∨ b ∈ fp → some b ≠ row := by
    intro b hb he
    obtain ⟨r1, r2, r3, r4⟩ := hrow b he.symm
    rcases hb with hb | hb | hb | hb
    · omega
    · exact r2 hb
    · exact r3 hb
    · exact r4 hb
  have hmv : ∀ b, b < w.heap.size + 2 ∨ b ∈ obs v ∨ b ∈ fp → (W1.setCell ⟨g3, 3, none⟩ u).heap[b]? = W.heap[b]? := by
    intro b hb
    have hb2 : b < W.heap.size ∧ b ≠ g3 := by
      rcases hb with hb | hb | hb
      · exact ⟨by omega, by omega⟩
      · exact ⟨hl b (.inr (.inl hb)), (hge b (.inr (.inl hb))).2⟩
      · exact ⟨hl b (.inr (.inr hb)), (hge b (.inr (.inr hb))).2⟩
    rw [Below.heap_setCell _ _ _ _ (by exact hb2.2)]
    exact hg.block b hb2.1 (hne b (by rcases hb with hb | hb | hb <;> simp [hb]))
  refine ⟨(h.dr.grown hg (fun c hc => by have := (hrow c hc).1; omega)).put (by omega) u, (hmv _ (.inl (by omega))).trans h.k1, (hmv _ (.inl (by omega))).trans h.k2, ?_, h3, own_move ho (fun b hb => Below.heap_setCell _ _ _ _ (by exact (hu b hb).2.1)), own_move h.o4 (fun b hb => hmv b (.inr (.inl (obs_mem.2 hb)))), h.tr.move _ (fun b hb => hmv b (.inr (.inr hb))), ?_, ?_⟩
  · have := (hg.block g3 hls.2 (hne g3 (.inr (.inl rfl)))).trans h.k3
    simpa using blk_set this 3 u
  · simp only [List.nodup_append, List.mem_append]
    refine ⟨?_, ⟨n4, n5, n45⟩, fun a ha b hb e => ?_⟩
    · unfold obs
      cases u.ownBlock <;> simp
    · subst e
      have := hu a (obs_mem.1 ha)
      rcases hb with hb | hb
      · exact this.2.2.1 hb
      · exact this.2.2.2 hb
  · simp only [List.mem_append]
    intro b hb
    rcases hb with hb | hb | hb
    · have := hu b (obs_mem.1 hb); exact ⟨this.1, this.2.1⟩
    · exact hge b (.inr (.inl hb))
    · exact hge b (.inr (.inr hb))
/-- The form's own row of scopes is apart from its parts. -/
theorem Dp.own3 (h : Dp w0 w g s q O1 O2 g3 k n m sc ks v3 v inner fp W) : ∀ b, v3.ownBlock = some b → w.heap.size + 2 ≤ b ∧ b ≠ g3 ∧ b ∉ obs v ∧ b ∉ fp := by
  intro b hb
  have hge := h.ge b (by simp [obs_mem, hb])
  have hnd := h.nd
  simp only [List.nodup_append, List.mem_append] at hnd
  have hb3 : b ∈ obs v3 := obs_mem.2 hb
  exact ⟨hge.1, hge.2, fun hm => hnd.2.2 b hb3 b (.inl hm) rfl, fun hm => hnd.2.2 b hb3 b (.inr hm) rfl⟩
/-- A new block is none of the form's. -/
theorem Dp.fresh (h : Dp w0 w g s q O1 O2 g3 k n m sc ks v3 v inner fp W) {b : Nat} (hb : W.heap.size ≤ b) : w.heap.size + 2 ≤ b ∧ b ≠ g3 ∧ b ∉ obs v ∧ b ∉ fp := by
  have hl := h.lt
  have hls := h.lts
  refine ⟨by omega, by omega, fun hm => ?_, fun hm => ?_⟩
  · have := hl b (by simp [hm]); omega
  · have := hl b (by simp [hm]); omega
/-- One part of the form gives way to a form in new memory. -/
theorem Dp.kid {B : Nat} {y : Fm} {u3 u4 : Value} {gr cap : Nat} {a b : List Fm} {x : Fm} {ia ib : List Value} {z3 z4 : Value} {fa fx fb : List Nat}
    {N : Nat} (hN : N = ks.length) (h : Dp w0 w g s q O1 O2 g3 k n m sc ks v3 (.slice (some ⟨gr, 0, none⟩) N cap) inner fp W) (hks : ks = a ++ x :: b) (hin : inner = ia ++ ([.int .i64 x.f0, .string x.f1, .int .i64 x.f2, z3, z4] ++ ib)) (hfp : fp = fa ++ (fx ++ fb)) (ha : TrL W a ia fa) (hb : TrL W b ib fb)
    (hB : ∀ c, c ∈ obs v3 ++ (obs (.slice (some ⟨gr, 0, none⟩) N cap) ++ fp) → c < B) (hB3 : g3 < B) (hB2 : w.heap.size + 2 ≤ B) (hn : NewF B W y u3 u4) :
    ∃ fp', Dp w0 w g s q O1 O2 g3 k n m sc (a ++ y :: b) v3 (.slice (some ⟨gr, 0, none⟩) N cap) (ia ++ ([.int .i64 y.f0, .string y.f1, .int .i64 y.f2, u3, u4] ++ ib)) fp' (set5 W gr (a.length * 5) (.int .i64 y.f0) (.string y.f1) (.int .i64 y.f2) u3 u4) := by
  obtain ⟨fk, ht, hknd, hkge⟩ := hn
  have hl := h.lt
  have hls := h.lts
  have hge := h.ge
  have h3 := h.h3
  have hnd := h.nd
  have htl := ht.lt y
  subst hN hks hin hfp
  have hlen := ha.len
  obtain ⟨_, _, hput⟩ := row_put h.o4 hlen
  have hgr : gr ∈ obs (Value.slice (some ⟨gr, 0, none⟩) (a ++ x :: b).length cap) := by simp [obs, Value.ownBlock]
  have hob : ∀ c, c ∈ obs (Value.slice (some ⟨gr, 0, none⟩) (a ++ x :: b).length cap) → c = gr := by intro c hc; simpa [obs, Value.ownBlock] using hc
  simp only [List.nodup_append, List.mem_append] at hnd hge hl hB
  obtain ⟨n3, ⟨n4, ⟨na, ⟨nx, nb, nxb⟩, naxb⟩, n45⟩, n345⟩ := hnd
  have hgr3 := (hge gr (.inr (.inl hgr))).2
  have hmv : ∀ c, c ≠ gr → (set5 W gr (a.length * 5) (.int .i64 y.f0) (.string y.f1) (.int .i64 y.f2) u3 u4).heap[c]? = W.heap[c]? := fun c hc => set5_far _ _ _ _ _ _ _ _ c hc
  have hgw := (hge gr (.inr (.inl hgr))).1
  refine ⟨fa ++ (fk ++ fb), ((((h.dr.put (by omega) _).put (by omega) _).put (by omega) _).put (by omega) _).put (by omega) _, (hmv _ (by omega)).trans h.k1, (hmv _ (by omega)).trans h.k2, (hmv _ (by omega)).trans h.k3, h3, own_move h.o3 (fun c hc => hmv c (fun e => n345 c (obs_mem.2 hc) gr (.inl hgr) e)), ?_, ?_, ?_, ?_⟩
  · have := hput (.int .i64 y.f0) (.string y.f1) (.int .i64 y.f2) u3 u4
    simpa using this
  · refine (ha.move _ (fun c hc => hmv c (fun e => n45 gr hgr c (.inl hc) e.symm))).append ?_
    refine .cons y b u3 u4 ib fk fb (ht.move y (fun c hc => hmv c (fun e => ?_))) (hb.move _ (fun c hc => hmv c (fun e => n45 gr hgr c (.inr (.inr hc)) e.symm)))
    have h1 := hkge c hc
    have h2 := hB gr (.inr (.inl hgr))
    omega
  · simp only [List.nodup_append, List.mem_append]
    refine ⟨n3, ⟨n4, ⟨na, ⟨hknd, nb, fun c hc d hd e => ?_⟩, fun c hc d hd e => ?_⟩, fun c hc d hd e => ?_⟩, fun c hc d hd e => ?_⟩
    · have := hkge c hc; have := hB d (.inr (.inr (.inr (.inr hd)))); omega
    · rcases hd with hd | hd
      · have := hkge d hd; have := hB c (.inr (.inr (.inl hc))); omega
      · exact naxb c hc d (.inr hd) e
    · rcases hd with hd | hd | hd
      · exact n45 c hc d (.inl hd) e
      · have := hkge d hd; have := hB c (.inr (.inl hc)); omega
      · exact n45 c hc d (.inr (.inr hd)) e
    · rcases hd with hd | hd | hd | hd
      · exact n345 c hc d (.inl hd) e
      · exact n345 c hc d (.inr (.inl hd)) e
      · have := hkge d hd; have := hB c (.inl hc); omega
      · exact n345 c hc d (.inr (.inr (.inr hd))) e
  · simp only [List.mem_append]
    intro c hc
    rcases hc with hc | hc | hc | hc | hc
    · exact hge c (.inl hc)
    · exact hge c (.inr (.inl hc))
    · exact hge c (.inr (.inr (.inl hc)))
    · have := hkge c hc; exact ⟨by omega, by omega⟩
    · exact hge c (.inr (.inr (.inr (.inr hc))))
theorem Dp.newF (h : Dp w0 w g s q O1 O2 g3 k n m sc ks v3 v inner fp W) (hW : ∀ b, b ≠ w.heap.size + 1 → W1.heap[b]? = W.heap[b]?) : NewF w.heap.size W1 ⟨k, n, m, sc, ks⟩ v3 v := by
  have hge := h.ge
  refine ⟨_, .mk ⟨k, n, m, sc, ks⟩ v3 v inner fp (own_move h.o3 (fun b hb => hW b ?_)) (own_move h.o4 (fun b hb => hW b ?_)) (h.tr.move _ (fun b hb => hW b ?_)), h.nd, fun b hb => ?_⟩
  · have := hge b (by simp [obs_mem, hb]); omega
  · have := hge b (by simp [obs_mem, hb]); omega
  · have := hge b (by simp [hb]); omega
  · have := hge b hb; omega
/-- The copy of a form is laid into its variable. -/
theorem Dp.start {w1 : World} {x : Fm} (hd : Dr w0 w g s q w1) (hk1 : w1.heap[w.heap.size]? = some O1) (hk2 : w1.heap[w.heap.size + 1]? = some O2) (hn : NewF (w.heap.size + 2) w1 x v3 v) : ∃ inner fp, Dp w0 w g s q O1 O2 w1.heap.size x.f0 x.f1 x.f2 x.f3 x.f4 v3 v inner fp (w1.alloc (.cells #[.int .i64 x.f0, .string x.f1, .int .i64 x.f2, v3, v] 26 (0, 0))) := by
  obtain ⟨fp, ht, hnd, hge⟩ := hn
  have hb := below_new w1 (.cells #[.int .i64 x.f0, .string x.f1, .int .i64 x.f2, v3, v] 26 (0, 0))
  have hlt := ht.lt x
  have h2 := blk_lt hk2
  obtain ⟨inner, fk, rfl, o3, o4, hk⟩ := ht.open
  refine ⟨inner, fk, hd.later hb, blk_below hk1 hb, blk_below hk2 hb, blk_new _ _, by omega, own_move o3 (fun b hb2 => hb.block b (hlt b (by simp [obs_mem, hb2]))), own_move o4 (fun b hb2 => hb.block b (hlt b (by simp [obs_mem, hb2]))), hk.later hb, hnd, fun b hb2 => ⟨hge b hb2, by have := hlt b hb2; omega⟩⟩
end
end Go.Proofs.YteeepenncddnjaaDoor
end
section
namespace Go.Proofs.YteeepenncddnjaaDoor
open Go.RowKit Go.Proofs.YteeepenncddnjaaDoorW.PrintWords Go.Proofs.YteeepenncddnjaaDoorW.PrintLast Go.Proofs.YteeepenncddnjaaDoorW.PrintMore
set_option linter.unusedVariables false
set_option linter.unusedSimpArgs false
/-- A row of numbers in new memory is handed back. -/
def RetI (w : World) (xs : List Int) (e : Ending) (w' : World) : Prop := ∃ v, e = .returned v ∧ kI.R 3 w' w.heap.size (fun _ => True) v xs ∧ Below w.heap.size w w'
end Go.Proofs.YteeepenncddnjaaDoor
end
section
namespace Go.Proofs.YteeepenncddnjaaDoor
set_option linter.unusedVariables false
mutual
/-- A form without scopes. -/
def Fm.bare : Fm → Fm
  | ⟨a, b, c, _, ks⟩ => ⟨a, b, c, [], bareL ks⟩
def bareL : List Fm → List Fm
  | [] => []
  | k :: ks => k.bare :: bareL ks
end
theorem bareL_map (l : List Fm) : bareL l = l.map Fm.bare := by
  induction l with
  | nil => rfl
  | cons a l ih => simp [bareL, ih]
theorem Fm.bare_eq (x : Fm) : x.bare = ⟨x.f0, x.f1, x.f2, [], x.f4.map Fm.bare⟩ := by
  cases x; simp only [Fm.bare, bareL_map]
end Go.Proofs.YteeepenncddnjaaDoor
end
section
namespace Go.Proofs.YteeepenncddnjaaDoor
open Go.RowKit Go.Proofs.YteeepenncddnjaaDoorW.PrintWords Go.Proofs.YteeepenncddnjaaDoorW.PrintLast Go.Proofs.YteeepenncddnjaaDoorW.PrintMore
set_option linter.unusedVariables false
set_option linter.unusedSimpArgs false
theorem scTot (x : Fm) : x.f3.length ≤ x.tot := by
  have := x.tot_eq; omega
set_option maxHeartbeats 4000000 in
set_option maxRecDepth 100000 in
theorem l1Copy_any : ∀ x : Fm, ∀ (A3 : Option Addr) (c3 : Nat) (A4 : Option Addr) (c4 : Nat) (w : World), FmIn w x A3 c3 A4 c4 → x.tot ≤ 1000000000 →
    Calls Tryd.prog 61 #[.agg #[.int .i64 x.f0, .string x.f1, .int .i64 x.f2, .slice A3 x.f3.length c3, .slice A4 x.f4.length c4]] w (RetF w x) := by
  intro x
  induction x using Fm.ind with
  | h x ih =>
    intro A3 c3 A4 c4 w hin ht
    have hmax := hin.g4.2.1
    have HI := Lib.hid hin
    have HT := Lib.hid ht
    have IH := Lib.hid ih
    clear hin ht ih
    go_enter Tryd.func61, Tryd.ntmps61
    go_wp2_with fail
    obtain ⟨kb1, kb2, hb0⟩ := two_new (w := w) (O1 := (.cells #[.int .i64 x.f0, .string x.f1, .int .i64 x.f2, .slice A3 x.f3.length c3, .slice A4 x.f4.length c4] 26)) (O2 := (.cells #[.int .i64 0, .string ⟨#[]⟩, .int .i64 0, .slice none 0 0, .slice none 0 0] 26)) (Below.refl _ _).drew
    obtain ⟨p0, p1, p2, p3, p4⟩ := fm_cells kb1
    refine start_ (n := 13) (S := fun w' => w'.cell? ⟨w.heap.size, 0, none⟩ = some (.int .i64 x.f0) ∧ w'.cell? ⟨w.heap.size, 1, none⟩ = some (.string x.f1) ∧ w'.cell? ⟨w.heap.size, 2, none⟩ = some (.int .i64 x.f2) ∧ w'.cell? ⟨w.heap.size, 3, none⟩ = some (.slice A3 x.f3.length c3)) (ds := []) #[false, false, false, false, false, false, false, false, false, false, false, false, false] (by kernel_rfl) rfl rfl ⟨p0, p1, p2, p3⟩ (fun hHeld => ?_)
    have hsz : w.heap.size + 2 ≤ (((w.alloc (.cells #[.int .i64 x.f0, .string x.f1, .int .i64 x.f2, .slice A3 x.f3.length c3, .slice A4 x.f4.length c4] 26)).alloc (.cells #[.int .i64 0, .string ⟨#[]⟩, .int .i64 0, .slice none 0 0, .slice none 0 0] 26)).drew).heap.size := by simp
    generalize World.drew _ = w5 at kb1 kb2 hb0 hsz p0 p1 p2 p3 p4 hHeld ⊢
    have P0 := Lib.hid p0
    have P1 := Lib.hid p1
    have P2 := Lib.hid p2
    have P3 := Lib.hid p3
    have KB1 := Lib.hid kb1
    have KB2 := Lib.hid kb2
    have HB0 := Lib.hid hb0
    have HSZ := Lib.hid hsz
    clear p0 p1 p2 p3 p4 kb1 kb2 hb0 hsz
    refine pure_ (i := 0) (N := some 5) (v := ?_) (a' := ?_) #[true, false, false, false, false, false, false, false, false, false, false, false, false] rfl rfl (by kernel_rfl) (fun _ _ _ h => h) (Or.inl ⟨by rfl, ?_⟩) ?_ ?_
    rotate_left
    · intro w'
      go_simp
      with_reducible rfl
    rotate_left
    · simp only [Act.put, List.setIfInBounds_toArray, List.set_cons_zero, List.set_cons_succ, i64_w, i32_w]
      rfl
    refine pure_ (i := 2) (N := some 7) (v := ?_) (a' := ?_) #[true, false, true, false, false, false, false, false, false, false, false, false, false] rfl rfl (by kernel_rfl) (fun _ _ _ h => h) (Or.inl ⟨by rfl, ?_⟩) ?_ ?_
    rotate_left
    · intro w'
      go_simp
      with_reducible rfl
    rotate_left
    · simp only [Act.put, List.setIfInBounds_toArray, List.set_cons_zero, List.set_cons_succ, i64_w, i32_w]
      rfl
    refine pure_ (i := 4) (N := some 9) (v := ?_) (a' := ?_) #[true, false, true, false, true, false, false, false, false, false, false, false, false] rfl rfl (by kernel_rfl) (fun _ _ _ h => h) (Or.inl ⟨by rfl, ?_⟩) ?_ ?_
    rotate_left
    · intro w'
      go_simp
      with_reducible rfl
    rotate_left
    · simp only [Act.put, List.setIfInBounds_toArray, List.set_cons_zero, List.set_cons_succ, i64_w, i32_w]
      rfl
    refine pure_ (i := 7) (N := some 12) (v := ?_) (a' := ?_) #[true, false, true, false, true, false, false, true, false, false, false, false, false] rfl rfl (by kernel_rfl) (fun _ _ _ h => h) (Or.inl ⟨by rfl, ?_⟩) ?_ ?_
    rotate_left
    · intro w'
      go_simp
      with_reducible rfl
    rotate_left
    · simp only [Act.put, List.setIfInBounds_toArray, List.set_cons_zero, List.set_cons_succ, i64_w, i32_w]
      rfl
    refine take_ (i := 1) (N := some 6) (v := ?_) (a' := ?_) #[true, true, true, false, true, false, false, true, false, false, false, false, false] rfl rfl (by kernel_rfl) (fun _ _ _ h => h) (Or.inl ⟨by rfl, ?_⟩) hHeld ?_ ?_
    rotate_left
    · rintro w' ⟨s0, s1, s2, s3⟩
      go_simp
      with_reducible rfl
    rotate_left
    · simp only [Act.put, List.setIfInBounds_toArray, List.set_cons_zero, List.set_cons_succ, i64_w, i32_w]
      rfl
    refine take_ (i := 3) (N := some 8) (v := ?_) (a' := ?_) #[true, true, true, true, true, false, false, true, false, false, false, false, false] rfl rfl (by kernel_rfl) (fun _ _ _ h => h) (Or.inl ⟨by rfl, ?_⟩) hHeld ?_ ?_
    rotate_left
    · rintro w' ⟨s0, s1, s2, s3⟩
      go_simp
      with_reducible rfl
    rotate_left
    · simp only [Act.put, List.setIfInBounds_toArray, List.set_cons_zero, List.set_cons_succ, i64_w, i32_w]
      rfl
    refine take_ (i := 5) (N := some 10) (v := ?_) (a' := ?_) #[true, true, true, true, true, true, false, true, false, false, false, false, false] rfl rfl (by kernel_rfl) (fun _ _ _ h => h) (Or.inl ⟨by rfl, ?_⟩) hHeld ?_ ?_
    rotate_left
    · rintro w' ⟨s0, s1, s2, s3⟩
      go_simp
      with_reducible rfl
    rotate_left
    · simp only [Act.put, List.setIfInBounds_toArray, List.set_cons_zero, List.set_cons_succ, i64_w, i32_w]
      rfl
    refine take_ (i := 8) (N := some 13) (v := ?_) (a' := ?_) #[true, true, true, true, true, true, false, true, true, false, false, false, false] rfl rfl (by kernel_rfl) (fun _ _ _ h => h) (Or.inl ⟨by rfl, ?_⟩) hHeld ?_ ?_
    rotate_left
    · rintro w' ⟨s0, s1, s2, s3⟩
      go_simp
      with_reducible rfl
    rotate_left
    · simp only [Act.put, List.setIfInBounds_toArray, List.set_cons_zero, List.set_cons_succ, i64_w, i32_w]
      rfl
    refine join_ (σ := Value × Value × Nat) 1 #[true, true, true, true, true, true, true, true, true, true, true, true, false] (fun s_ => [(11, s_.1), (14, s_.2.1), (3, .pointer (some ⟨s_.2.2, 0, none⟩)), (15, .agg #[.int .i64 x.f0, .string x.f1, .int .i64 x.f2, s_.2.1, .slice none 0 0])]) (fun s_ w' => Below w5.heap.size w5 w' ∧ kI.R 3 w' w5.heap.size (fun _ => True) s_.2.1 x.f3 ∧ w'.heap[s_.2.2]? = some (.cells #[.int .i64 0, .string ⟨#[]⟩, .int .i64 0, .slice none 0 0, .slice none 0 0] 26) ∧ w5.heap.size ≤ s_.2.2) ?_ ?_
    rotate_left
    · intro hCont
      refine two_ (i := 6) (j := 11) (Ni := some 11) (Nj := some 3) #[true, true, true, true, true, true, true, true, true, false, false, false, false] #[true, true, true, true, true, true, false, true, true, false, false, true, false] rfl rfl rfl rfl (by kernel_rfl) (by decide) (by decide) (fun K hK => ?_) (fun K hK => ?_)
      · refine Kd.R_lit_step (Kd.int .i64) _ 3 ?hg (N := 11) ?hd (xs := ([] : List Int)) (inner := []) (ok := fun _ => True) (okp := fun _ => True) ?hr ?hp (fun _ hk => hk) trivial (Below.refl _ _) (Nat.le_refl _) (by simp) ?_; (case hd => rfl); (case hg => rfl); (case hr => first | (go_simp; done) | (go_simp; rfl)); (case hp => exact (Reps.none _ _))
        intro v0 w6 ho0 hb6 hg6 hn6
        clear hg6 hn6
        refine hK.out _ _ ⟨ck0 hb6 P0.out, ck0 hb6 P1.out, ck0 hb6 P2.out, ck0 hb6 P3.out⟩ (fun hHeld => ?_)
        clear hK K
        refine norm_ (a' := ?_) ?_ ?_
        rotate_left
        · show Act.put _ (some 11) _ = _
          simp only [Act.put, List.setIfInBounds_toArray, List.set_cons_zero, List.set_cons_succ, i64_w, i32_w]
          rfl
        refine two_ (i := 9) (j := 11) (Ni := some 14) (Nj := some 3) #[true, true, true, true, true, true, true, true, true, true, false, false, false] #[true, true, true, true, true, true, true, true, true, false, false, true, false] rfl rfl rfl rfl (by kernel_rfl) (by decide) (by decide) (fun K hK => ?_) (fun K hK => ?_)
        · refine Kd.R_append_rows_step (Kd.int .i64) (w0 := w5) w5.heap.size (by rfl) (.tmp 11) (.tmp 13) 23 3 (.int .i64 0) 8 rfl Tryd.underlying23 infoI rfl (by decide) (by omega) v0 [] x.f3 _ _ _ (fun _ => True) (fun _ => False) rfl rfl ho0 (Kd.C_below HI.out.g3 (below_step HB0.out hb6)) (fun _ _ h => h) (fun _ h => h.elim) (fun _ _ => trivial) hb6 hb6.size (by have := HT.out; have := scTot x; simp; omega) ?_
          intro v3 w7 ho3 hb7 hg7 hat7
          rw [List.nil_append] at ho3
          obtain ⟨D3, e3, rfl⟩ := Kd.R_slice ho3
          refine hK.out _ _ ⟨ck0 hb7 P0.out, ck0 hb7 P1.out, ck0 hb7 P2.out, ck0 hb7 P3.out⟩ (fun hHeld => ?_)
          clear hK K
          refine norm_ (a' := ?_) ?_ ?_
          rotate_left
          · show Act.put _ (some 14) _ = _
            simp only [Act.put, List.setIfInBounds_toArray, List.set_cons_zero, List.set_cons_succ, i64_w, i32_w]
            rfl
          refine pure_ (i := 10) (N := some 15) (v := ?_) (a' := ?_) #[true, true, true, true, true, true, true, true, true, true, true, false, false] rfl rfl (by kernel_rfl) (fun _ _ _ h => h) (Or.inl ⟨by rfl, ?_⟩) ?_ ?_
          rotate_left
          · intro w'
            go_simp
            with_reducible rfl
          rotate_left
          · simp only [Act.put, List.setIfInBounds_toArray, List.set_cons_zero, List.set_cons_succ, i64_w, i32_w]
            rfl
          refine one_ (i := 11) (N := some 3) #[true, true, true, true, true, true, true, true, true, true, true, true, false] rfl rfl (by kernel_rfl) (by decide) (fun K hK => ?_)
          refine box_step ?hg (N := 3) ?hd (cs := #[.int .i64 0, .string ⟨#[]⟩, .int .i64 0, .slice none 0 0, .slice none 0 0]) (t := 26) ?hr ?_; (case hd => rfl); (case hg => rfl); (case hr => first | (go_simp; done) | (go_simp; rfl))
          intro g3 hg w8 hbox hb8
          have hb9 := below_step hb7 hb8
          refine hK.out _ _ ⟨ck0 hb9 P0.out, ck0 hb9 P1.out, ck0 hb9 P2.out, ck0 hb9 P3.out⟩ (fun hHeld => ?_)
          clear hK K
          refine norm_ (a' := ?_) ?_ ?_
          rotate_left
          · show Act.put _ (some 3) _ = _
            simp only [Act.put, List.setIfInBounds_toArray, List.set_cons_zero, List.set_cons_succ, i64_w, i32_w]
            rfl
          exact norm_ (by simp only [putAll, Act.put, List.setIfInBounds_toArray, List.set_cons_zero, List.set_cons_succ]) (hCont (v0, .slice D3 x.f3.length e3, g3) _ ⟨hb9, Kd.R_below ho3 hb8, hbox, hg ▸ hb7.size⟩)
        · refine box_step ?hg (N := 3) ?hd (cs := #[.int .i64 0, .string ⟨#[]⟩, .int .i64 0, .slice none 0 0, .slice none 0 0]) (t := 26) ?hr ?_; (case hd => rfl); (case hg => rfl); (case hr => first | (go_simp; done) | (go_simp; rfl))
          intro g3 hg w7 hbox hb7
          have hb8 := below_step hb6 hb7
          have ho8 := Kd.R_below ho0 hb7
          have hne := Kd.R_ne ho8 hbox (by decide)
          refine hK.out _ _ ⟨ck0 hb8 P0.out, ck0 hb8 P1.out, ck0 hb8 P2.out, ck0 hb8 P3.out⟩ (fun hHeld => ?_)
          clear hK K
          refine norm_ (a' := ?_) ?_ ?_
          rotate_left
          · show Act.put _ (some 3) _ = _
            simp only [Act.put, List.setIfInBounds_toArray, List.set_cons_zero, List.set_cons_succ, i64_w, i32_w]
            rfl
          refine one_ (i := 9) (N := some 14) #[true, true, true, true, true, true, true, true, true, true, false, true, false] rfl rfl (by kernel_rfl) (by decide) (fun K hK => ?_)
          refine Kd.R_append_rows_step (Kd.int .i64) (w0 := w5) w5.heap.size (by rfl) (.tmp 11) (.tmp 13) 23 3 (.int .i64 0) 8 rfl Tryd.underlying23 infoI rfl (by decide) (by omega) v0 [] x.f3 _ _ _ (fun _ => True) (fun _ => False) rfl rfl ho8 (Kd.C_below HI.out.g3 (below_step HB0.out hb8)) (fun _ _ h => h) (fun _ h => h.elim) (fun _ _ => trivial) hb8 hb8.size (by have := HT.out; have := scTot x; simp; omega) ?_
          intro v3 w9 ho3 hb9 hg9 hat9
          rw [List.nil_append] at ho3
          obtain ⟨D3, e3, rfl⟩ := Kd.R_slice ho3
          refine hK.out _ _ ⟨ck0 hb9 P0.out, ck0 hb9 P1.out, ck0 hb9 P2.out, ck0 hb9 P3.out⟩ (fun hHeld => ?_)
          clear hK K
          refine norm_ (a' := ?_) ?_ ?_
          rotate_left
          · show Act.put _ (some 14) _ = _
            simp only [Act.put, List.setIfInBounds_toArray, List.set_cons_zero, List.set_cons_succ, i64_w, i32_w]
            rfl
          refine pure_ (i := 10) (N := some 15) (v := ?_) (a' := ?_) #[true, true, true, true, true, true, true, true, true, true, true, true, false] rfl rfl (by kernel_rfl) (fun _ _ _ h => h) (Or.inl ⟨by rfl, ?_⟩) ?_ ?_
          rotate_left
          · intro w'
            go_simp
            with_reducible rfl
          rotate_left
          · simp only [Act.put, List.setIfInBounds_toArray, List.set_cons_zero, List.set_cons_succ, i64_w, i32_w]
            rfl
          exact norm_ (by simp only [putAll, Act.put, List.setIfInBounds_toArray, List.set_cons_zero, List.set_cons_succ]) (hCont (v0, .slice D3 x.f3.length e3, g3) _ ⟨hb9, ho3, blk_grown hbox hg9 hne, hg ▸ hb6.size⟩)
      · refine box_step ?hg (N := 3) ?hd (cs := #[.int .i64 0, .string ⟨#[]⟩, .int .i64 0, .slice none 0 0, .slice none 0 0]) (t := 26) ?hr ?_; (case hd => rfl); (case hg => rfl); (case hr => first | (go_simp; done) | (go_simp; rfl))
        intro g3 hg w6 hbox hb6
        refine hK.out _ _ ⟨ck0 hb6 P0.out, ck0 hb6 P1.out, ck0 hb6 P2.out, ck0 hb6 P3.out⟩ (fun hHeld => ?_)
        clear hK K
        refine norm_ (a' := ?_) ?_ ?_
        rotate_left
        · show Act.put _ (some 3) _ = _
          simp only [Act.put, List.setIfInBounds_toArray, List.set_cons_zero, List.set_cons_succ, i64_w, i32_w]
          rfl
        refine one_ (i := 6) (N := some 11) #[true, true, true, true, true, true, true, true, true, false, false, true, false] rfl rfl (by kernel_rfl) (by decide) (fun K hK => ?_)
        refine Kd.R_lit_step (Kd.int .i64) _ 3 ?hg (N := 11) ?hd (xs := ([] : List Int)) (inner := []) (ok := fun _ => True) (okp := fun _ => True) ?hr ?hp (fun _ hk => hk) trivial (Below.refl _ _) (Nat.le_refl _) (by simp) ?_; (case hd => rfl); (case hg => rfl); (case hr => first | (go_simp; done) | (go_simp; rfl)); (case hp => exact (Reps.none _ _))
        intro v0 w7 ho0 hb7 hg7 hn7
        have hbox7 := blk_below hbox hb7
        have hb8 := below_step hb6 hb7
        have ho8 := Kd.R_lower ho0 hb6.size
        have hne := Kd.R_ne ho0 hbox7 (by decide)
        refine hK.out _ _ ⟨ck0 hb8 P0.out, ck0 hb8 P1.out, ck0 hb8 P2.out, ck0 hb8 P3.out⟩ (fun hHeld => ?_)
        clear hK K
        refine norm_ (a' := ?_) ?_ ?_
        rotate_left
        · show Act.put _ (some 11) _ = _
          simp only [Act.put, List.setIfInBounds_toArray, List.set_cons_zero, List.set_cons_succ, i64_w, i32_w]
          rfl
        refine one_ (i := 9) (N := some 14) #[true, true, true, true, true, true, true, true, true, true, false, true, false] rfl rfl (by kernel_rfl) (by decide) (fun K hK => ?_)
        refine Kd.R_append_rows_step (Kd.int .i64) (w0 := w5) w5.heap.size (by rfl) (.tmp 11) (.tmp 13) 23 3 (.int .i64 0) 8 rfl Tryd.underlying23 infoI rfl (by decide) (by omega) v0 [] x.f3 _ _ _ (fun _ => True) (fun _ => False) rfl rfl ho8 (Kd.C_below HI.out.g3 (below_step HB0.out hb8)) (fun _ _ h => h) (fun _ h => h.elim) (fun _ _ => trivial) hb8 hb8.size (by have := HT.out; have := scTot x; simp; omega) ?_
        intro v3 w9 ho3 hb9 hg9 hat9
        rw [List.nil_append] at ho3
        obtain ⟨D3, e3, rfl⟩ := Kd.R_slice ho3
        refine hK.out _ _ ⟨ck0 hb9 P0.out, ck0 hb9 P1.out, ck0 hb9 P2.out, ck0 hb9 P3.out⟩ (fun hHeld => ?_)
        clear hK K
        refine norm_ (a' := ?_) ?_ ?_
        rotate_left
        · show Act.put _ (some 14) _ = _
          simp only [Act.put, List.setIfInBounds_toArray, List.set_cons_zero, List.set_cons_succ, i64_w, i32_w]
          rfl
        refine pure_ (i := 10) (N := some 15) (v := ?_) (a' := ?_) #[true, true, true, true, true, true, true, true, true, true, true, true, false] rfl rfl (by kernel_rfl) (fun _ _ _ h => h) (Or.inl ⟨by rfl, ?_⟩) ?_ ?_
        rotate_left
        · intro w'
          go_simp
          with_reducible rfl
        rotate_left
        · simp only [Act.put, List.setIfInBounds_toArray, List.set_cons_zero, List.set_cons_succ, i64_w, i32_w]
          rfl
        exact norm_ (by simp only [putAll, Act.put, List.setIfInBounds_toArray, List.set_cons_zero, List.set_cons_succ]) (hCont (v0, .slice D3 x.f3.length e3, g3) _ ⟨hb9, ho3, blk_grown hbox7 hg9 hne, Nat.le_of_eq hg.symm⟩)
    rintro ⟨v0, v3, g3⟩ wz ⟨hbz, ho3, hbox, hg3⟩
    dsimp only at ho3 hbox hg3
    have hHeld : True := trivial
    refine norm_ (a' := ?_) ?_ ?_
    rotate_left
    · simp only [putAll, Act.put, List.setIfInBounds_toArray, List.set_cons_zero, List.set_cons_succ]
      rfl
    have K1z := blk_below KB1.out hbz
    have hl1 := blk_lt KB1.out
    have hne3 := Kd.R_ne ho3 hbox (by decide)
    obtain ⟨D3, e3, rfl⟩ := Kd.R_slice ho3
    obtain ⟨st1, st2, st3⟩ := st5 hbox (.int .i64 x.f0) (.string x.f1) (.int .i64 x.f2) (.slice D3 x.f3.length e3) (.slice none 0 0)
    have hS5 := fm_cells ((st2 w.heap.size (by omega)).trans K1z)
    have HCP := Lib.hid (Cp.start (w := w) KB1.out KB2.out HB0.out HSZ.out hbz ho3 hg3 hne3 st1 st2 (st3 _ _ hbz hg3))
    obtain ⟨z0, z1, z2, z3, z4⟩ := fm_cells hbox
    obtain ⟨f0, f1, f2, f3, f4⟩ := fm_free hbox
    clear hbz ho3 hbox hg3 K1z hl1 hne3 st1 st2 st3 KB1 KB2 HB0 HSZ P0 P1 P2 P3
    refine one_ (i := 12) (N := none) #[true, true, true, true, true, true, true, true, true, true, true, true, true] rfl rfl (by kernel_rfl) (by decide) (fun K hK => ?_)
    refine skip_ (w1 := ?_) (by rfl) rfl ?_ ?_
    rotate_left
    · go_simp
      rfl
    refine hK.out _ _ ⟨hS5.1, hS5.2.1, hS5.2.2.1, hS5.2.2.2.1⟩ (fun hHeld => ?_)
    clear hK K z0 z1 z2 z3 z4 f0 f1 f2 f3 f4 hS5
    refine done_ (by kernel_rfl) ?_
    try go_wp2_with fail
    go_loopg [4] x.f4.length (fun kq v4 w' => ∃ i : Nat, i ≤ x.f4.length ∧ x.f4.length - i ≤ kq ∧ v4 = .int .i64 i ∧ Aside0 (∃ v inner fp, Cp w (.cells #[.int .i64 x.f0, .string x.f1, .int .i64 x.f2, .slice A3 x.f3.length c3, .slice A4 x.f4.length c4] 26) (.cells #[.int .i64 0, .string ⟨#[]⟩, .int .i64 0, .slice none 0 0, .slice none 0 0] 26) g3 x.f0 x.f1 x.f2 x.f3 (x.f4.take i) (.slice D3 x.f3.length e3) v inner fp w'))
    case atStart => exact ⟨0, Nat.zero_le _, by omega, rfl, ⟨⟨.slice none 0 0, [], [], by simpa using HCP.out⟩⟩⟩
    case round =>
      obtain ⟨i, hi, hg, rfl, HO⟩ := hrel
      by_cases hlt : i < x.f4.length
      · obtain ⟨v, inner, fp, hC⟩ := HO.out
        obtain ⟨p0, p1, p2, p3, p4⟩ := fm_cells hC.fr.k1
        obtain ⟨ad, G3, m3, G4, m4, e, g0, g1, g2, g3_, g4, hk⟩ := kid_at HI.out.g4 i hlt
        subst e
        have hkt := totL_mem (List.getElem_mem hlt)
        have hxt := HT.out
        rw [Fm.tot_eq] at hxt
        have r1 : (0 : Int) ≤ (i : Int) := by omega
        have r2 : (i : Int) < (x.f4.length : Int) := by omega
        have hlen := len_totL x.f4
        have HKT := Lib.hid (show x.f4[i].tot ≤ 1000000000 by omega)
        have HLN := Lib.hid (show x.f4.length ≤ 1000000000 by omega)
        have HK := Lib.hid hk
        have HC := Lib.hid hC
        have SK := Lib.hid (fun (W : World) (hf : Fr w (.cells #[.int .i64 x.f0, .string x.f1, .int .i64 x.f2, .slice A3 x.f3.length c3, .slice (some ad) x.f4.length c4] 26) (.cells #[.int .i64 0, .string ⟨#[]⟩, .int .i64 0, .slice none 0 0, .slice none 0 0] 26) g3 #[.int .i64 x.f0, .string x.f1, .int .i64 x.f2, (.slice D3 x.f3.length e3), v] W) => (⟨(fm_cells hf.k1).2.2.2.2, (fm_cells hf.k3).2.2.2.2, ck0 hf.b g0, ck0 hf.b g1, ck0 hf.b g2, ck0 hf.b g3_, ck0 hf.b g4⟩ : (fun w' => w'.cell? ⟨w.heap.size, 4, none⟩ = some (.slice (some ad) x.f4.length c4) ∧ w'.cell? ⟨g3, 4, none⟩ = some v ∧ w'.cell? (ad.add (i * 5)) = some (.int .i64 x.f4[i].f0) ∧ w'.cell? ⟨(ad.add (i * 5)).block, (ad.add (i * 5)).off + 1, none⟩ = some (.string x.f4[i].f1) ∧ w'.cell? ⟨(ad.add (i * 5)).block, (ad.add (i * 5)).off + 2, none⟩ = some (.int .i64 x.f4[i].f2) ∧ w'.cell? ⟨(ad.add (i * 5)).block, (ad.add (i * 5)).off + 3, none⟩ = some (.slice G3 x.f4[i].f3.length m3) ∧ w'.cell? ⟨(ad.add (i * 5)).block, (ad.add (i * 5)).off + 4, none⟩ = some (.slice G4 x.f4[i].f4.length m4)) W))
        clear hC hk p0 p1 p2 p3 hkt hxt hlen g0 g1 g2 g3_ g4
        go_wp2_with fail
        have HD := Lib.hid (HC.out.later (below_drew (Below.refl _ _)))
        refine start_ (n := 12) (S := fun w' => w'.cell? ⟨w.heap.size, 4, none⟩ = some (.slice (some ad) x.f4.length c4) ∧ w'.cell? ⟨g3, 4, none⟩ = some v ∧ w'.cell? (ad.add (i * 5)) = some (.int .i64 x.f4[i].f0) ∧ w'.cell? ⟨(ad.add (i * 5)).block, (ad.add (i * 5)).off + 1, none⟩ = some (.string x.f4[i].f1) ∧ w'.cell? ⟨(ad.add (i * 5)).block, (ad.add (i * 5)).off + 2, none⟩ = some (.int .i64 x.f4[i].f2) ∧ w'.cell? ⟨(ad.add (i * 5)).block, (ad.add (i * 5)).off + 3, none⟩ = some (.slice G3 x.f4[i].f3.length m3) ∧ w'.cell? ⟨(ad.add (i * 5)).block, (ad.add (i * 5)).off + 4, none⟩ = some (.slice G4 x.f4[i].f4.length m4)) (ds := [11]) #[false, false, false, false, false, false, false, false, false, false, false, false] (by kernel_rfl) rfl rfl (SK.out _ HD.out.fr) (fun hHeld => ?_)
        clear p4
        generalize wr.drew = wd at HD hHeld ⊢
        refine pure_ (i := 0) (N := some 23) (v := ?_) (a' := ?_) #[true, false, false, false, false, false, false, false, false, false, false, false] rfl rfl (by kernel_rfl) (fun _ _ _ h => h) (Or.inl ⟨by rfl, ?_⟩) ?_ ?_
        rotate_left
        · intro w'
          go_simp
          with_reducible rfl
        rotate_left
        · simp only [Act.put, List.setIfInBounds_toArray, List.set_cons_zero, List.set_cons_succ, i64_w, i32_w]
          rfl
        refine pure_ (i := 2) (N := some 25) (v := ?_) (a' := ?_) #[true, false, true, false, false, false, false, false, false, false, false, false] rfl rfl (by kernel_rfl) (fun _ _ _ h => h) (Or.inl ⟨by rfl, ?_⟩) ?_ ?_
        rotate_left
        · intro w'
          go_simp
          with_reducible rfl
        rotate_left
        · simp only [Act.put, List.setIfInBounds_toArray, List.set_cons_zero, List.set_cons_succ, i64_w, i32_w]
          rfl
        refine pure_ (i := 4) (N := some 27) (v := ?_) (a' := ?_) #[true, false, true, false, true, false, false, false, false, false, false, false] rfl rfl (by kernel_rfl) (fun _ _ _ h => h) (Or.inl ⟨by rfl, ?_⟩) ?_ ?_
        rotate_left
        · intro w'
          go_simp
          with_reducible rfl
        rotate_left
        · simp only [Act.put, List.setIfInBounds_toArray, List.set_cons_zero, List.set_cons_succ, i64_w, i32_w]
          rfl
        refine take_ (i := 1) (N := some 24) (v := ?_) (a' := ?_) #[true, true, true, false, true, false, false, false, false, false, false, false] rfl rfl (by kernel_rfl) (fun _ _ _ h => h) (Or.inl ⟨by rfl, ?_⟩) hHeld ?_ ?_
        rotate_left
        · rintro w' ⟨s0, s1, s2, s3, s4, s5, s6⟩
          go_simp
          with_reducible rfl
        rotate_left
        · simp only [Act.put, List.setIfInBounds_toArray, List.set_cons_zero, List.set_cons_succ, i64_w, i32_w]
          rfl
        refine take_ (i := 3) (N := some 26) (v := ?_) (a' := ?_) #[true, true, true, true, true, false, false, false, false, false, false, false] rfl rfl (by kernel_rfl) (fun _ _ _ h => h) (Or.inl ⟨by rfl, ?_⟩) hHeld ?_ ?_
        rotate_left
        · rintro w' ⟨s0, s1, s2, s3, s4, s5, s6⟩
          go_simp
          with_reducible rfl
        rotate_left
        · simp only [Act.put, List.setIfInBounds_toArray, List.set_cons_zero, List.set_cons_succ, i64_w, i32_w]
          rfl
        refine pure_ (i := 5) (N := some 28) (v := ?_) (a' := ?_) #[true, true, true, true, true, true, false, false, false, false, false, false] rfl rfl (by kernel_rfl) (fun _ _ _ h => h) (Or.inl ⟨by rfl, ?_⟩) ?_ ?_
        rotate_left
        · intro w'
          go_simp
          with_reducible rfl
        rotate_left
        · simp only [Act.put, List.setIfInBounds_toArray, List.set_cons_zero, List.set_cons_succ, i64_w, i32_w]
          rfl
        refine take_ (i := 6) (N := some 29) (v := ?_) (a' := ?_) #[true, true, true, true, true, true, true, false, false, false, false, false] rfl rfl (by kernel_rfl) (fun _ _ _ h => h) (Or.inl ⟨by rfl, ?_⟩) hHeld ?_ ?_
        rotate_left
        · rintro w' ⟨s0, s1, s2, s3, s4, s5, s6⟩
          go_simp
          with_reducible rfl
        rotate_left
        · simp only [Act.put, List.setIfInBounds_toArray, List.set_cons_zero, List.set_cons_succ, i64_w, i32_w]
          rfl
        refine one_ (i := 7) (N := some 30) #[true, true, true, true, true, true, true, true, false, false, false, false] rfl rfl (by kernel_rfl) (by decide) (fun K hK => ?_)
        refine goes_ Tryd.func61 (by kernel_rfl) rfl #[.agg #[.int .i64 x.f4[i].f0, .string x.f4[i].f1, .int .i64 x.f4[i].f2, .slice G3 x.f4[i].f3.length m3, .slice G4 x.f4[i].f4.length m4]] (by rfl) rfl rfl (by (try simp only [List.map_toArray, List.map_cons, List.map_nil]); first | done | rfl) ?_
        refine (IH.out x.f4[i] (List.getElem_mem hlt) G3 m3 G4 m4 wd (HK.out.below HD.out.fr.b) HKT.out).mono ?_
        rintro e w7 ⟨u3, u4, rfl, hn, hb7⟩
        refine ⟨_, rfl, ?_⟩
        obtain ⟨J3, q3, J4, q4, rfl, rfl⟩ : ∃ J3 q3 J4 q4, u3 = .slice J3 (x.f4[i]).f3.length q3 ∧ u4 = .slice J4 (x.f4[i]).f4.length q4 := by
          obtain ⟨fk, hk2, _⟩ := hn
          obtain ⟨J3, q3, J4, q4, e3, e4, _⟩ := hk2.In
          exact ⟨J3, q3, J4, q4, e3, e4⟩
        have H7 := Lib.hid (HD.out.later hb7)
        have HN := Lib.hid hn
        have HLT := Lib.hid (And.intro HD.out.lt HD.out.fr.lt)
        clear hn hb7
        refine hK.out _ _ (SK.out _ H7.out.fr) (fun hHeld => ?_)
        clear hK K
        refine norm_ (a' := ?_) ?_ ?_
        rotate_left
        · show Act.put _ (some 30) _ = _
          simp only [Act.put, List.setIfInBounds_toArray, List.set_cons_zero, List.set_cons_succ, i64_w, i32_w]
          rfl
        refine one_ (i := 8) (N := some 31) #[true, true, true, true, true, true, true, true, true, false, false, false] rfl rfl (by kernel_rfl) (by decide) (fun K hK => ?_)
        refine value_ (w1 := ?_) (v := ?_) (by rfl) rfl ?_ ?_
        rotate_left 2
        · go_simp
          constructor
          · rfl
          · rfl
        refine hK.out _ _ (SK.out _ (H7.out.fr.later (below_new _ _))) (fun hHeld => ?_)
        clear hK K
        refine norm_ (a' := ?_) ?_ ?_
        rotate_left
        · show Act.put _ (some 31) _ = _
          simp only [Act.put, List.setIfInBounds_toArray, List.set_cons_zero, List.set_cons_succ, i64_w, i32_w]
          rfl
        refine one_ (i := 9) (N := some 32) #[true, true, true, true, true, true, true, true, true, true, false, false] rfl rfl (by kernel_rfl) (by decide) (fun K hK => ?_)
        have hl0 : (x.f4.take i).length = i := by simp; omega
        refine step_append_cells (w0 := w) (W := w7) w.heap.size (by rfl) (.tmp 24) (.tmp 31) 24 26 (.agg #[.int .i64 0, .string ⟨#[]⟩, .int .i64 0, .slice none 0 0, .slice none 0 0]) 5 80 rfl Tryd.underlying24 infoF rfl (by decide) (by omega) v (x.f4.take i).length inner [.int .i64 (x.f4[i]).f0, .string (x.f4[i]).f1, .int .i64 (x.f4[i]).f2, .slice J3 (x.f4[i]).f3.length q3, .slice J4 (x.f4[i]).f4.length q4] rfl rfl rfl (by simp [Value.oneCell']) (own_base_ H7.out.o4 (fun b hb => by have := (H7.out.ge b (by simp [obs_mem, hb])).1; omega)) H7.out.fr.b H7.out.fr.b.size (by have := HLN.out; rw [hl0]; omega) ?_
        intro v' w8 ho hb8 hg8 hat8
        obtain ⟨fp', hC8⟩ := H7.out.more HLT.out.1 HLT.out.2.2 HLT.out.2.1 HN.out (own_weaken ho (Nat.zero_le _)) hg8 hat8
        have hf8 := H7.out.fr.grown hg8 (fun c hc => H7.out.ge c (by simp [obs_mem, hc]))
        have hv' : ∃ A c, v' = .slice A ((x.f4.take i).length + 1) c := by
          rcases ho with ⟨_, ⟨rfl, h0⟩ | ⟨g, cap, cur, rfl, _⟩⟩
          · exact absurd h0 (by omega)
          · exact ⟨_, _, rfl⟩
        rw [hl0] at hv'
        obtain ⟨A', c', rfl⟩ := hv'
        have H8 := Lib.hid hf8
        have HC8 := Lib.hid hC8
        clear ho hb8 hg8 hat8 hf8 hC8
        refine hK.out _ _ (SK.out _ H8.out) (fun hHeld => ?_)
        clear hK K
        refine norm_ (a' := ?_) ?_ ?_
        rotate_left
        · show Act.put _ (some 32) _ = _
          simp only [Act.put, List.setIfInBounds_toArray, List.set_cons_zero, List.set_cons_succ, i64_w, i32_w]
          rfl
        refine pure_ (i := 10) (N := some 33) (v := ?_) (a' := ?_) #[true, true, true, true, true, true, true, true, true, true, true, false] rfl rfl (by kernel_rfl) (fun _ _ _ h => h) (Or.inl ⟨by rfl, ?_⟩) ?_ ?_
        rotate_left
        · intro w'
          go_simp
          with_reducible rfl
        rotate_left
        · simp only [Act.put, List.setIfInBounds_toArray, List.set_cons_zero, List.set_cons_succ, i64_w, i32_w]
          rfl
        refine last_ (i := 11) (N := none) #[true, true, true, true, true, true, true, true, true, true, true, true] rfl rfl (by kernel_rfl) (by decide) (fun K hK => ?_)
        have z4 := (fm_cells H8.out.k3).2.2.2.2
        have f4 := (fm_free H8.out.k3).2.2.2.2
        refine skip_ (w1 := ?_) (by rfl) rfl ?_ ?_
        rotate_left
        · go_simp
          rfl
        refine hK.out _ _ ?_
        clear hK K z4 f4
        refine done_ (by kernel_rfl) ?_
        have HX := Lib.hid (show x.f4.take i ++ [x.f4[i]] = x.f4.take (i + 1) from (List.take_succ_eq_append_getElem hlt).symm)
        rw [HX.out] at HC8
        try go_wp2
        go_roundg (x.f4.length - (i + 1))
        case measure => omega
        case rel => exact ⟨i + 1, by omega, Nat.le_refl _, by go_num, ⟨⟨_, _, _, HC8.out⟩⟩⟩
      · obtain rfl : i = x.f4.length := by omega
        obtain ⟨v, inner, fp, hC⟩ := HO.out
        rw [List.take_length] at hC
        obtain ⟨A4', c4', e4', -, -⟩ := hC.tr.C hC.o4
        subst e4'
        obtain ⟨p0, p1, p2, p3, p4⟩ := fm_cells hC.fr.k3
        obtain ⟨y0, y1, y2, y3, y4⟩ := fm_cells hC.fr.k1
        obtain ⟨z0, z1, z2, z3, z4⟩ := fm_cells hC.fr.k2
        obtain ⟨f0, f1, f2, f3, f4⟩ := fm_free hC.fr.k2
        have hn1 : g3 ≠ w.heap.size + 1 := by have := hC.fr.h3; omega
        have hn2 : w.heap.size + 1 ≠ g3 := fun e => hn1 e.symm
        obtain ⟨st1, st2, st3⟩ := st5 hC.fr.k2 (.int .i64 x.f0) (.string x.f1) (.int .i64 x.f2) (.slice D3 x.f3.length e3) (.slice A4' x.f4.length c4')
        have HNF := hC.newF (st2)
        rw [show (⟨x.f0, x.f1, x.f2, x.f3, x.f4⟩ : Fm) = x from by cases x; rfl] at HNF
        have HN := Lib.hid HNF
        have HB := Lib.hid (st3 _ _ hC.fr.b (by omega))
        clear hC HO st1 st2 st3 HNF
        go_wp2_with fail
        refine bodyPost_ret (v := .agg #[.int .i64 x.f0, .string x.f1, .int .i64 x.f2, (.slice D3 x.f3.length e3), .slice A4' x.f4.length c4']) (by simp [results, Tryd.results61, go_sem, z0, z1, z2, z3, z4]) rfl ?_
        exact ⟨_, _, rfl, HN.out, HB.out⟩
set_option maxHeartbeats 4000000 in
set_option maxRecDepth 100000 in
theorem specStrip_any : ∀ x : Fm, ∀ (A3 : Option Addr) (c3 : Nat) (A4 : Option Addr) (c4 : Nat) (w : World), FmIn w x A3 c3 A4 c4 → x.tot ≤ 1000000000 →
    Calls Tryd.prog 15 #[.agg #[.int .i64 x.f0, .string x.f1, .int .i64 x.f2, .slice A3 x.f3.length c3, .slice A4 x.f4.length c4]] w (RetF w x.bare) := by
  intro x
  induction x using Fm.ind with
  | h x ih =>
    intro A3 c3 A4 c4 w hin ht
    have hmax := hin.g4.2.1
    have HI := Lib.hid hin
    have HT := Lib.hid ht
    have IH := Lib.hid ih
    clear hin ht ih
    go_enter Tryd.func15, Tryd.ntmps15
    have HCP : Hid (Cp w (.cells #[.int .i64 x.f0, .string x.f1, .int .i64 x.f2, .slice A3 x.f3.length c3, .slice A4 x.f4.length c4] 26) (.cells #[.int .i64 0, .string ⟨#[]⟩, .int .i64 0, .slice none 0 0, .slice none 0 0] 26) (w.heap.size + 1 + 1) x.f0 x.f1 x.f2 [] [] (.slice none 0 0) (.slice none 0 0) [] [] (((w.alloc (.cells #[.int .i64 x.f0, .string x.f1, .int .i64 x.f2, .slice A3 x.f3.length c3, .slice A4 x.f4.length c4] 26)).alloc (.cells #[.int .i64 0, .string ⟨#[]⟩, .int .i64 0, .slice none 0 0, .slice none 0 0] 26)).alloc (.cells #[.int .i64 x.f0, .string x.f1, .int .i64 x.f2, .slice none 0 0, .slice none 0 0] 26))) := by
      obtain ⟨k1, k2, k3, hb⟩ := three_new (w := w) (O1 := (.cells #[.int .i64 x.f0, .string x.f1, .int .i64 x.f2, .slice A3 x.f3.length c3, .slice A4 x.f4.length c4] 26)) (O2 := (.cells #[.int .i64 0, .string ⟨#[]⟩, .int .i64 0, .slice none 0 0, .slice none 0 0] 26)) (O3 := .cells #[.int .i64 x.f0, .string x.f1, .int .i64 x.f2, .slice none 0 0, .slice none 0 0] 26) (Below.refl _ _)
      exact ⟨⟨hb, k1, k2, k3, Nat.le_refl _⟩, by simp [World.ownsRow, encs], by simp [World.ownsRow], .nil, by simp [obs, Value.ownBlock], by simp [obs, Value.ownBlock]⟩
    go_wp2_with fail
    try go_wp2_with fail
    go_loopg [4] x.f4.length (fun kq v4 w' => ∃ i : Nat, i ≤ x.f4.length ∧ x.f4.length - i ≤ kq ∧ v4 = .int .i64 i ∧ Aside0 (∃ v inner fp, Cp w (.cells #[.int .i64 x.f0, .string x.f1, .int .i64 x.f2, .slice A3 x.f3.length c3, .slice A4 x.f4.length c4] 26) (.cells #[.int .i64 0, .string ⟨#[]⟩, .int .i64 0, .slice none 0 0, .slice none 0 0] 26) (w.heap.size + 1 + 1) x.f0 x.f1 x.f2 [] ((x.f4.take i).map Fm.bare) (.slice none 0 0) v inner fp w'))
    case atStart => exact ⟨0, Nat.zero_le _, by omega, rfl, ⟨⟨.slice none 0 0, [], [], by simpa using HCP.out⟩⟩⟩
    case round =>
      obtain ⟨i, hi, hg, rfl, HO⟩ := hrel
      by_cases hlt : i < x.f4.length
      · obtain ⟨v, inner, fp, hC⟩ := HO.out
        obtain ⟨p0, p1, p2, p3, p4⟩ := fm_cells hC.fr.k1
        obtain ⟨ad, G3, m3, G4, m4, e, g0, g1, g2, g3_, g4, hk⟩ := kid_at HI.out.g4 i hlt
        subst e
        have hkt := totL_mem (List.getElem_mem hlt)
        have hxt := HT.out
        rw [Fm.tot_eq] at hxt
        have r1 : (0 : Int) ≤ (i : Int) := by omega
        have r2 : (i : Int) < (x.f4.length : Int) := by omega
        have hlen := len_totL x.f4
        have HKT := Lib.hid (show x.f4[i].tot ≤ 1000000000 by omega)
        have HLN := Lib.hid (show x.f4.length ≤ 1000000000 by omega)
        have HK := Lib.hid hk
        have HC := Lib.hid hC
        have SK := Lib.hid (fun (W : World) (hf : Fr w (.cells #[.int .i64 x.f0, .string x.f1, .int .i64 x.f2, .slice A3 x.f3.length c3, .slice (some ad) x.f4.length c4] 26) (.cells #[.int .i64 0, .string ⟨#[]⟩, .int .i64 0, .slice none 0 0, .slice none 0 0] 26) (w.heap.size + 1 + 1) #[.int .i64 x.f0, .string x.f1, .int .i64 x.f2, (.slice none 0 0), v] W) => (⟨(fm_cells hf.k1).2.2.2.2, (fm_cells hf.k3).2.2.2.2, ck0 hf.b g0, ck0 hf.b g1, ck0 hf.b g2, ck0 hf.b g3_, ck0 hf.b g4⟩ : (fun w' => w'.cell? ⟨w.heap.size, 4, none⟩ = some (.slice (some ad) x.f4.length c4) ∧ w'.cell? ⟨(w.heap.size + 1 + 1), 4, none⟩ = some v ∧ w'.cell? (ad.add (i * 5)) = some (.int .i64 x.f4[i].f0) ∧ w'.cell? ⟨(ad.add (i * 5)).block, (ad.add (i * 5)).off + 1, none⟩ = some (.string x.f4[i].f1) ∧ w'.cell? ⟨(ad.add (i * 5)).block, (ad.add (i * 5)).off + 2, none⟩ = some (.int .i64 x.f4[i].f2) ∧ w'.cell? ⟨(ad.add (i * 5)).block, (ad.add (i * 5)).off + 3, none⟩ = some (.slice G3 x.f4[i].f3.length m3) ∧ w'.cell? ⟨(ad.add (i * 5)).block, (ad.add (i * 5)).off + 4, none⟩ = some (.slice G4 x.f4[i].f4.length m4)) W))
        clear hC hk p0 p1 p2 p3 hkt hxt hlen g0 g1 g2 g3_ g4
        go_wp2_with fail
        have HD := Lib.hid (HC.out.later (below_drew (Below.refl _ _)))
        refine start_ (n := 12) (S := fun w' => w'.cell? ⟨w.heap.size, 4, none⟩ = some (.slice (some ad) x.f4.length c4) ∧ w'.cell? ⟨(w.heap.size + 1 + 1), 4, none⟩ = some v ∧ w'.cell? (ad.add (i * 5)) = some (.int .i64 x.f4[i].f0) ∧ w'.cell? ⟨(ad.add (i * 5)).block, (ad.add (i * 5)).off + 1, none⟩ = some (.string x.f4[i].f1) ∧ w'.cell? ⟨(ad.add (i * 5)).block, (ad.add (i * 5)).off + 2, none⟩ = some (.int .i64 x.f4[i].f2) ∧ w'.cell? ⟨(ad.add (i * 5)).block, (ad.add (i * 5)).off + 3, none⟩ = some (.slice G3 x.f4[i].f3.length m3) ∧ w'.cell? ⟨(ad.add (i * 5)).block, (ad.add (i * 5)).off + 4, none⟩ = some (.slice G4 x.f4[i].f4.length m4)) (ds := [11]) #[false, false, false, false, false, false, false, false, false, false, false, false] (by kernel_rfl) rfl rfl (SK.out _ HD.out.fr) (fun hHeld => ?_)
        clear p4
        generalize wr.drew = wd at HD hHeld ⊢
        refine pure_ (i := 0) (N := some 19) (v := ?_) (a' := ?_) #[true, false, false, false, false, false, false, false, false, false, false, false] rfl rfl (by kernel_rfl) (fun _ _ _ h => h) (Or.inl ⟨by rfl, ?_⟩) ?_ ?_
        rotate_left
        · intro w'
          go_simp
          with_reducible rfl
        rotate_left
        · simp only [Act.put, List.setIfInBounds_toArray, List.set_cons_zero, List.set_cons_succ, i64_w, i32_w]
          rfl
        refine pure_ (i := 2) (N := some 21) (v := ?_) (a' := ?_) #[true, false, true, false, false, false, false, false, false, false, false, false] rfl rfl (by kernel_rfl) (fun _ _ _ h => h) (Or.inl ⟨by rfl, ?_⟩) ?_ ?_
        rotate_left
        · intro w'
          go_simp
          with_reducible rfl
        rotate_left
        · simp only [Act.put, List.setIfInBounds_toArray, List.set_cons_zero, List.set_cons_succ, i64_w, i32_w]
          rfl
        refine pure_ (i := 4) (N := some 23) (v := ?_) (a' := ?_) #[true, false, true, false, true, false, false, false, false, false, false, false] rfl rfl (by kernel_rfl) (fun _ _ _ h => h) (Or.inl ⟨by rfl, ?_⟩) ?_ ?_
        rotate_left
        · intro w'
          go_simp
          with_reducible rfl
        rotate_left
        · simp only [Act.put, List.setIfInBounds_toArray, List.set_cons_zero, List.set_cons_succ, i64_w, i32_w]
          rfl
        refine take_ (i := 1) (N := some 20) (v := ?_) (a' := ?_) #[true, true, true, false, true, false, false, false, false, false, false, false] rfl rfl (by kernel_rfl) (fun _ _ _ h => h) (Or.inl ⟨by rfl, ?_⟩) hHeld ?_ ?_
        rotate_left
        · rintro w' ⟨s0, s1, s2, s3, s4, s5, s6⟩
          go_simp
          with_reducible rfl
        rotate_left
        · simp only [Act.put, List.setIfInBounds_toArray, List.set_cons_zero, List.set_cons_succ, i64_w, i32_w]
          rfl
        refine take_ (i := 3) (N := some 22) (v := ?_) (a' := ?_) #[true, true, true, true, true, false, false, false, false, false, false, false] rfl rfl (by kernel_rfl) (fun _ _ _ h => h) (Or.inl ⟨by rfl, ?_⟩) hHeld ?_ ?_
        rotate_left
        · rintro w' ⟨s0, s1, s2, s3, s4, s5, s6⟩
          go_simp
          with_reducible rfl
        rotate_left
        · simp only [Act.put, List.setIfInBounds_toArray, List.set_cons_zero, List.set_cons_succ, i64_w, i32_w]
          rfl
        refine pure_ (i := 5) (N := some 24) (v := ?_) (a' := ?_) #[true, true, true, true, true, true, false, false, false, false, false, false] rfl rfl (by kernel_rfl) (fun _ _ _ h => h) (Or.inl ⟨by rfl, ?_⟩) ?_ ?_
        rotate_left
        · intro w'
          go_simp
          with_reducible rfl
        rotate_left
        · simp only [Act.put, List.setIfInBounds_toArray, List.set_cons_zero, List.set_cons_succ, i64_w, i32_w]
          rfl
        refine take_ (i := 6) (N := some 25) (v := ?_) (a' := ?_) #[true, true, true, true, true, true, true, false, false, false, false, false] rfl rfl (by kernel_rfl) (fun _ _ _ h => h) (Or.inl ⟨by rfl, ?_⟩) hHeld ?_ ?_
        rotate_left
        · rintro w' ⟨s0, s1, s2, s3, s4, s5, s6⟩
          go_simp
          with_reducible rfl
        rotate_left
        · simp only [Act.put, List.setIfInBounds_toArray, List.set_cons_zero, List.set_cons_succ, i64_w, i32_w]
          rfl
        refine one_ (i := 7) (N := some 26) #[true, true, true, true, true, true, true, true, false, false, false, false] rfl rfl (by kernel_rfl) (by decide) (fun K hK => ?_)
        refine goes_ Tryd.func15 (by kernel_rfl) rfl #[.agg #[.int .i64 x.f4[i].f0, .string x.f4[i].f1, .int .i64 x.f4[i].f2, .slice G3 x.f4[i].f3.length m3, .slice G4 x.f4[i].f4.length m4]] (by rfl) rfl rfl (by (try simp only [List.map_toArray, List.map_cons, List.map_nil]); first | done | rfl) ?_
        refine (IH.out x.f4[i] (List.getElem_mem hlt) G3 m3 G4 m4 wd (HK.out.below HD.out.fr.b) HKT.out).mono ?_
        rintro e w7 ⟨u3, u4, rfl, hn, hb7⟩
        refine ⟨_, rfl, ?_⟩
        obtain ⟨J3, q3, J4, q4, rfl, rfl⟩ : ∃ J3 q3 J4 q4, u3 = .slice J3 (x.f4[i].bare).f3.length q3 ∧ u4 = .slice J4 (x.f4[i].bare).f4.length q4 := by
          obtain ⟨fk, hk2, _⟩ := hn
          obtain ⟨J3, q3, J4, q4, e3, e4, _⟩ := hk2.In
          exact ⟨J3, q3, J4, q4, e3, e4⟩
        have H7 := Lib.hid (HD.out.later hb7)
        have HN := Lib.hid hn
        have HLT := Lib.hid (And.intro HD.out.lt HD.out.fr.lt)
        clear hn hb7
        refine hK.out _ _ (SK.out _ H7.out.fr) (fun hHeld => ?_)
        clear hK K
        refine norm_ (a' := ?_) ?_ ?_
        rotate_left
        · show Act.put _ (some 26) _ = _
          simp only [Act.put, List.setIfInBounds_toArray, List.set_cons_zero, List.set_cons_succ, i64_w, i32_w]
          rfl
        refine one_ (i := 8) (N := some 27) #[true, true, true, true, true, true, true, true, true, false, false, false] rfl rfl (by kernel_rfl) (by decide) (fun K hK => ?_)
        refine value_ (w1 := ?_) (v := ?_) (by rfl) rfl ?_ ?_
        rotate_left 2
        · go_simp
          constructor
          · rfl
          · rfl
        refine hK.out _ _ (SK.out _ (H7.out.fr.later (below_new _ _))) (fun hHeld => ?_)
        clear hK K
        refine norm_ (a' := ?_) ?_ ?_
        rotate_left
        · show Act.put _ (some 27) _ = _
          simp only [Act.put, List.setIfInBounds_toArray, List.set_cons_zero, List.set_cons_succ, i64_w, i32_w]
          rfl
        refine one_ (i := 9) (N := some 28) #[true, true, true, true, true, true, true, true, true, true, false, false] rfl rfl (by kernel_rfl) (by decide) (fun K hK => ?_)
        have hl0 : ((x.f4.take i).map Fm.bare).length = i := by simp; omega
        refine step_append_cells (w0 := w) (W := w7) w.heap.size (by rfl) (.tmp 20) (.tmp 27) 24 26 (.agg #[.int .i64 0, .string ⟨#[]⟩, .int .i64 0, .slice none 0 0, .slice none 0 0]) 5 80 rfl Tryd.underlying24 infoF rfl (by decide) (by omega) v ((x.f4.take i).map Fm.bare).length inner [.int .i64 (x.f4[i].bare).f0, .string (x.f4[i].bare).f1, .int .i64 (x.f4[i].bare).f2, .slice J3 (x.f4[i].bare).f3.length q3, .slice J4 (x.f4[i].bare).f4.length q4] rfl rfl rfl (by simp [Value.oneCell']) (own_base_ H7.out.o4 (fun b hb => by have := (H7.out.ge b (by simp [obs_mem, hb])).1; omega)) H7.out.fr.b H7.out.fr.b.size (by have := HLN.out; rw [hl0]; omega) ?_
        intro v' w8 ho hb8 hg8 hat8
        obtain ⟨fp', hC8⟩ := H7.out.more HLT.out.1 HLT.out.2.2 HLT.out.2.1 HN.out (own_weaken ho (Nat.zero_le _)) hg8 hat8
        have hf8 := H7.out.fr.grown hg8 (fun c hc => H7.out.ge c (by simp [obs_mem, hc]))
        have hv' : ∃ A c, v' = .slice A (((x.f4.take i).map Fm.bare).length + 1) c := by
          rcases ho with ⟨_, ⟨rfl, h0⟩ | ⟨g, cap, cur, rfl, _⟩⟩
          · exact absurd h0 (by omega)
          · exact ⟨_, _, rfl⟩
        rw [hl0] at hv'
        obtain ⟨A', c', rfl⟩ := hv'
        have H8 := Lib.hid hf8
        have HC8 := Lib.hid hC8
        clear ho hb8 hg8 hat8 hf8 hC8
        refine hK.out _ _ (SK.out _ H8.out) (fun hHeld => ?_)
        clear hK K
        refine norm_ (a' := ?_) ?_ ?_
        rotate_left
        · show Act.put _ (some 28) _ = _
          simp only [Act.put, List.setIfInBounds_toArray, List.set_cons_zero, List.set_cons_succ, i64_w, i32_w]
          rfl
        refine pure_ (i := 10) (N := some 29) (v := ?_) (a' := ?_) #[true, true, true, true, true, true, true, true, true, true, true, false] rfl rfl (by kernel_rfl) (fun _ _ _ h => h) (Or.inl ⟨by rfl, ?_⟩) ?_ ?_
        rotate_left
        · intro w'
          go_simp
          with_reducible rfl
        rotate_left
        · simp only [Act.put, List.setIfInBounds_toArray, List.set_cons_zero, List.set_cons_succ, i64_w, i32_w]
          rfl
        refine last_ (i := 11) (N := none) #[true, true, true, true, true, true, true, true, true, true, true, true] rfl rfl (by kernel_rfl) (by decide) (fun K hK => ?_)
        have z4 := (fm_cells H8.out.k3).2.2.2.2
        have f4 := (fm_free H8.out.k3).2.2.2.2
        refine skip_ (w1 := ?_) (by rfl) rfl ?_ ?_
        rotate_left
        · go_simp
          rfl
        refine hK.out _ _ ?_
        clear hK K z4 f4
        refine done_ (by kernel_rfl) ?_
        have HX := Lib.hid (show (x.f4.take i).map Fm.bare ++ [x.f4[i].bare] = (x.f4.take (i + 1)).map Fm.bare from by rw [List.take_succ_eq_append_getElem hlt, List.map_append]; rfl)
        rw [HX.out] at HC8
        try go_wp2
        go_roundg (x.f4.length - (i + 1))
        case measure => omega
        case rel => exact ⟨i + 1, by omega, Nat.le_refl _, by go_num, ⟨⟨_, _, _, HC8.out⟩⟩⟩
      · obtain rfl : i = x.f4.length := by omega
        obtain ⟨v, inner, fp, hC⟩ := HO.out
        rw [List.take_length] at hC
        obtain ⟨A4', c4', e4', -, -⟩ := hC.tr.C hC.o4
        rw [show ((x.f4).map Fm.bare).length = x.f4.length from by simp] at e4'
        subst e4'
        obtain ⟨p0, p1, p2, p3, p4⟩ := fm_cells hC.fr.k3
        obtain ⟨y0, y1, y2, y3, y4⟩ := fm_cells hC.fr.k1
        obtain ⟨z0, z1, z2, z3, z4⟩ := fm_cells hC.fr.k2
        obtain ⟨f0, f1, f2, f3, f4⟩ := fm_free hC.fr.k2
        have hn1 : (w.heap.size + 1 + 1) ≠ w.heap.size + 1 := by have := hC.fr.h3; omega
        have hn2 : w.heap.size + 1 ≠ (w.heap.size + 1 + 1) := fun e => hn1 e.symm
        obtain ⟨st1, st2, st3⟩ := st5 hC.fr.k2 (.int .i64 x.f0) (.string x.f1) (.int .i64 x.f2) (.slice none 0 0) (.slice A4' x.f4.length c4')
        have HNF := hC.newF (st2)
        have HN := Lib.hid HNF
        have HB := Lib.hid (st3 _ _ hC.fr.b (by omega))
        clear hC HO st1 st2 st3 HNF
        go_wp2_with fail
        refine bodyPost_ret (v := .agg #[.int .i64 x.f0, .string x.f1, .int .i64 x.f2, (.slice none 0 0), .slice A4' x.f4.length c4']) (by simp [results, Tryd.results15, go_sem, z0, z1, z2, z3, z4]) rfl ?_
        rw [Fm.bare_eq]
        exact ⟨_, _, by simp, HN.out, HB.out⟩
end Go.Proofs.YteeepenncddnjaaDoor
end
section
namespace Go.Proofs.YteeepenncddnjaaDoor
open Go.RowKit Go.Proofs.YteeepenncddnjaaDoorW.PrintWords
set_option linter.unusedVariables false
theorem Ev.some {α : Type} {o : Option α} {r : α} (h : o = some r) : Ev (fun _ => o) r := ⟨0, fun _ _ => h⟩
theorem Ev.pos {α : Type} {c : Prop} [Decidable c] {a b : Nat → Option α} {r : α} (h : c) (e : Ev a r) : Ev (fun k => if c then a k else b k) r := by
  simp only [if_pos h]; exact e
theorem Ev.neg {α : Type} {c : Prop} [Decidable c] {a b : Nat → Option α} {r : α} (h : ¬ c) (e : Ev b r) : Ev (fun k => if c then a k else b k) r := by
  simp only [if_neg h]; exact e
theorem ev_loop {R S : Type} {L : Nat → S → Option R} (Inv : Nat → S → Prop) (n : Nat) (Post : R → Prop)
    (hs : ∀ i s, i < n → Inv i s → ∃ s', Inv (i + 1) s' ∧ ∀ r, Ev (fun k => L k s') r → Ev (fun k => L k s) r)
    (he : ∀ s, Inv n s → ∃ r, Post r ∧ Ev (fun k => L k s) r) : ∀ s, Inv 0 s → ∃ r, Post r ∧ Ev (fun k => L k s) r := by
  have key : ∀ m i s, i + m = n → Inv i s → ∃ r, Post r ∧ Ev (fun k => L k s) r := by
    intro m
    induction m with
    | zero => intro i s hi h; obtain rfl : i = n := by omega
              exact he s h
    | succ m ih =>
      intro i s hi h
      obtain ⟨s', h', hk⟩ := hs i s (by omega) h
      obtain ⟨r, hp, hr⟩ := ih (i + 1) s' (by omega) h'
      exact ⟨r, hp, hk r hr⟩
  exact fun s h => key n 0 s (by omega) h
theorem wr1 (i : Nat) (h : i < 4611686018427387904) : wrap64 ((i : Int) + 1) = ((i + 1 : Nat) : Int) := by
  rw [Go.IntWalk.wrap64_in _ ⟨by omega, by omega⟩]; omega
theorem Fm.eta (x : Fm) : (⟨x.f0, x.f1, x.f2, x.f3, x.f4⟩ : Fm) = x := by cases x; rfl
end Go.Proofs.YteeepenncddnjaaDoor
end
section
namespace Go.Proofs.YteeepenncddnjaaDoor
open Go.RowKit Go.Proofs.YteeepenncddnjaaDoorW.PrintWords Go.Proofs.YteeepenncddnjaaDoorW.PrintLast Go.Proofs.YteeepenncddnjaaDoorW.PrintMore
set_option linter.unusedVariables false
set_option linter.unusedSimpArgs false
noncomputable def pB (p : Prop) : Bool := @decide p (Classical.propDecidable _)
theorem pB_iff {p : Prop} : pB p = true ↔ p := by unfold pB; exact @decide_eq_true_iff _ (Classical.propDecidable _)
theorem pB_yes {p : Prop} (h : p) : true = pB p := (pB_iff.2 h).symm
theorem pB_no {p : Prop} (h : ¬ p) : false = pB p := by
  cases e : pB p with
  | true => exact absurd (pB_iff.1 e) h
  | false => rfl
theorem pB_of {b : Bool} {p : Prop} (h : b = true ↔ p) : b = pB p := by
  cases b with
  | true => exact pB_yes (h.1 rfl)
  | false => exact pB_no (fun hp => by have := h.2 hp; cases this)
def ScAt (xs : List Int) (i : Nat) : Prop := ∀ h : i < xs.length, 1 ≤ xs[i] ∧ xs[i] ≤ 99 ∧ ∀ (j : Nat) (hj : j < xs.length), j + 1 = i → xs[j] < xs[i]
def ScOk (xs : List Int) : Prop := xs.length ≤ 24 ∧ ∀ i, ScAt xs i
set_option maxHeartbeats 2000000 in
theorem scopesOk_any (xs : List Int) (A : Option Addr) (c : Nat) (w : World) (hr : kI.C w A xs.length xs) (hc : xs.length ≤ c) :
    Calls Tryd.prog 45 #[.slice A xs.length c] w (Ret w (.bool (pB (ScOk xs)))) := by
  have hmax := hr.2.1
  go_enter Tryd.func45, Tryd.ntmps45
  go_wp2_with fail
  go_loopg [3, 4, 7] xs.length (fun kq v3 v4 v7 w' => ∃ i : Nat, i ≤ xs.length ∧ xs.length - i ≤ kq ∧ v7 = .int .i64 i ∧ Aside0 (∀ j, j < i → ScAt xs j) ∧ Aside0 (Below w.heap.size w w'))
  case atStart => exact ⟨0, Nat.zero_le _, by omega, rfl, ⟨fun j h => absurd h (by omega)⟩, ⟨Below.refl _ _⟩⟩
  case round =>
    obtain ⟨i, hi, hg, rfl, HN, HW⟩ := hrel
    by_cases hlt : i < xs.length
    · obtain ⟨ad, e, hcell⟩ := int_at (Kd.C_below hr HW.out) i hlt
      subst e
      have HC := Lib.hid (within_any xs[i] 1 99 wr)
      go_wp2_with fail
      refine HC.out.mono ?_
      rintro e w1 ⟨rfl, hb1⟩
      have hW1 := below_step HW.out hb1
      by_cases ha : 1 ≤ xs[i] ∧ xs[i] ≤ 99
      · rw [decide_eq_true ha]
        have HA := Lib.hid ha
        clear ha
        by_cases hz : i = 0
        · have z1 : decide ((i : Int) > 0) = false := decide_eq_false (by omega)
          have z2 : decide ((0 : Int) < (i : Int)) = false := decide_eq_false (by omega)
          have z3 : decide (0 < i) = false := decide_eq_false (by omega)
          have HZ := Lib.hid hz
          have HW1 := Lib.hid hW1
          clear hz hW1 hb1
          go_wp2_with fail
          go_roundg (xs.length - (i + 1))
          case measure => omega
          case rel =>
            refine ⟨i + 1, by omega, Nat.le_refl _, by go_num, ⟨fun q hq => ?_⟩, ⟨HW1.out⟩⟩
            have h1 := HA.out
            have h3 := HZ.out
            obtain rfl : q = i := by omega
            exact fun _ => ⟨h1.1, h1.2, fun j hj he => absurd he (by omega)⟩
        · obtain ⟨j, hji⟩ : ∃ j, i = j + 1 := ⟨i - 1, by omega⟩
          have hj : j < xs.length := by omega
          obtain ⟨ad3, e3, hcell3⟩ := int_at (Kd.C_below hr hW1) j hj
          obtain rfl : ad = ad3 := by cases e3; rfl
          have z1 : decide ((i : Int) > 0) = true := decide_eq_true (by omega)
          have z2 : decide ((0 : Int) < (i : Int)) = true := decide_eq_true (by omega)
          have z3 : decide (0 < i) = true := decide_eq_true (by omega)
          have u1 : IntKind.i64.wrap ((i : Int) - 1) = (j : Int) := by rw [show ((i : Int) - 1) = (j : Int) from by omega]; exact IntWalk.i64_in _ (by omega)
          have u2 : (0 : Int) ≤ (j : Int) := by omega
          have u3 : (j : Int) < (xs.length : Int) := by omega
          have u4 : (i : Int) - 1 = (j : Int) := by omega
          have HJ := Lib.hid hji
          have HW1 := Lib.hid hW1
          by_cases hle : xs[i] ≤ xs[j]
          · have c1 : decide (xs[j] ≥ xs[i]) = true := decide_eq_true hle
            have c2 : decide (xs[i] ≤ xs[j]) = true := decide_eq_true hle
            have HL := Lib.hid hle
            clear hle hz hji hW1 hb1
            go_wp2_with fail
            go_ret
            refine ⟨ret_b (pB_no (fun h => ?_)), HW1.out⟩
            have := (h.2 i hlt).2.2 j hj HJ.out.symm
            have := HL.out
            omega
          · have c1 : decide (xs[j] ≥ xs[i]) = false := decide_eq_false hle
            have c2 : decide (xs[i] ≤ xs[j]) = false := decide_eq_false hle
            have HL := Lib.hid hle
            clear hle hz hji hW1 hb1
            go_wp2_with fail
            go_roundg (xs.length - (i + 1))
            case measure => omega
            case rel =>
              refine ⟨i + 1, by omega, Nat.le_refl _, by go_num, ⟨fun q hq => ?_⟩, ⟨HW1.out⟩⟩
              rcases Nat.lt_or_ge q i with h | h
              · exact HN.out q h
              · obtain rfl : q = i := by omega
                have h1 := HA.out
                have h3 := HL.out
                have h4 := HJ.out
                refine fun _ => ⟨h1.1, h1.2, fun p hp he => ?_⟩
                obtain rfl : p = j := by omega
                omega
      · rw [decide_eq_false ha]
        have HA := Lib.hid ha
        have HW1 := Lib.hid hW1
        clear ha hW1 hb1
        go_wp2_with fail
        go_ret
        exact ⟨ret_b (pB_no (fun h => HA.out ⟨(h.2 i hlt).1, (h.2 i hlt).2.1⟩)), HW1.out⟩
    · obtain rfl : i = xs.length := by omega
      by_cases h24 : xs.length ≤ 24
      · have t3 : decide ((xs.length : Int) ≤ 24) = true := decide_eq_true (by omega)
        go_wp2_with fail
        go_ret
        exact ⟨ret_b (pB_yes ⟨h24, fun i h => HN.out i h h⟩), HW.out⟩
      · have t3 : decide ((xs.length : Int) ≤ 24) = false := decide_eq_false (by omega)
        go_wp2_with fail
        go_ret
        exact ⟨ret_b (pB_no (fun h => h24 h.1)), HW.out⟩
end Go.Proofs.YteeepenncddnjaaDoor
end
section
namespace Go.Proofs.YteeepenncddnjaaDoor
open Go.RowKit Go.Proofs.YteeepenncddnjaaDoorW.PrintWords Go.Proofs.YteeepenncddnjaaDoorW.PrintLast Go.Proofs.YteeepenncddnjaaDoorW.PrintMore
set_option linter.unusedVariables false
set_option linter.unusedSimpArgs false
set_option maxRecDepth 100000

def letterB (c : Int) : Bool := (decide (97 ≤ c) && decide (c ≤ 122)) || c == 42 || c == 63 || c == 61 || c == 43 || c == 60
def digitB (c : Int) : Bool := (decide (48 ≤ c) && decide (c ≤ 57)) || c == 45
/-- What a valid name is. -/
def NmOk (s : ByteArray) : Prop := s.toList = [46, 46, 46] ∨ s.toList = [95] ∨ (1 ≤ s.size ∧ s.size ≤ 12 ∧ ∀ i (h : i < s.size), (letterB s[i].toNat || (!((i : Int) == 0) && digitB s[i].toNat)) = true)
noncomputable def nmB (s : ByteArray) : Bool := @decide (NmOk s) (Classical.propDecidable _)
theorem nmB_iff (s : ByteArray) : nmB s = true ↔ NmOk s := by unfold nmB; exact @decide_eq_true_iff _ (Classical.propDecidable _)
theorem nmB_t {s : ByteArray} (h : NmOk s) : true = nmB s := ((nmB_iff s).2 h).symm
theorem nmB_f {s : ByteArray} (h : ¬ NmOk s) : false = nmB s := by
  cases hb : nmB s with
  | true => exact absurd ((nmB_iff s).1 hb) h
  | false => rfl
theorem byte_lt (s : ByteArray) (i : Nat) (h : i < s.size) : 0 ≤ (s[i].toNat : Int) ∧ (s[i].toNat : Int) < 256 := ⟨by omega, by have := s[i].toNat_lt; omega⟩

theorem bytealgIndex_any (s : ByteArray) (c : Int) (w : World) : Calls Tryd.prog 81 #[.string s, .int .u8 c] w fun e w' => e = .returned (.int .i64 (Lib.indexByte s.data.toList c.toNat.toUInt8)) ∧ w' = w := by
  go_enter Tryd.func81, Tryd.ntmps81
  go_wp2
  rw [run_callFunc_extern Tryd.func89 (by kernel_rfl) (by kernel_rfl) (by kernel_rfl) (e := Extern.BytealgIndexByte.indexByte) (by kernel_rfl), Lib.run_indexByteString]
  simp only [Result.andThen]
  rw [Oper.upon_value]
  go_wp2
  go_ret
  exact ⟨rfl, rfl⟩
theorem indexByte_any (s : ByteArray) (c : Int) (w : World) : Calls Tryd.prog 72 #[.string s, .int .u8 c] w fun e w' => e = .returned (.int .i64 (Lib.indexByte s.data.toList c.toNat.toUInt8)) ∧ w' = w := by
  go_enter Tryd.func72, Tryd.ntmps72
  go_wp2_with fail
  refine (bytealgIndex_any s c w).mono ?_
  rintro e w1 ⟨rfl, rfl⟩
  go_wp2_with fail
  go_ret
  exact ⟨rfl, rfl⟩
theorem signs_tab : ∀ n : Fin 256, decide (0 ≤ Lib.indexByte [42, 63, 61, 43, 60] (n : Nat).toUInt8) = (decide ((n : Nat) = 42) || decide ((n : Nat) = 63) || decide ((n : Nat) = 61) || decide ((n : Nat) = 43) || decide ((n : Nat) = 60)) := by decide +kernel
theorem signs (c : Int) (h0 : 0 ≤ c) (h1 : c < 256) : decide (0 ≤ Lib.indexByte [42, 63, 61, 43, 60] c.toNat.toUInt8) = (c == 42 || c == 63 || c == 61 || c == 43 || c == 60) := by
  have h := signs_tab ⟨c.toNat, by omega⟩
  simp only at h
  rw [h, Bool.eq_iff_iff]
  simp
  omega
set_option maxHeartbeats 4000000 in
theorem implName_any (s : ByteArray) (w : World) (hs : s.size ≤ 140737488351232) : Calls Tryd.prog 44 #[.string s] w (Ret w (.bool (nmB s))) := by
  by_cases h1 : s.toList = [46, 46, 46]
  · have h1' : (s.toList == [46, 46, 46]) = true := by rw [h1]; rfl
    have H := Lib.hid (nmB_t (s := s) (.inl h1))
    clear h1
    go_enter Tryd.func44, Tryd.ntmps44
    go_wp2_with fail
    go_ret
    exact ⟨ret_b H.out, Below.refl _ _⟩
  by_cases h2 : s.toList = [95]
  · have h1' : (s.toList == [46, 46, 46]) = false := by simpa using h1
    have h2' : (s.toList == [95]) = true := by rw [h2]; rfl
    have H := Lib.hid (nmB_t (s := s) (.inr (.inl h2)))
    clear h1 h2
    go_enter Tryd.func44, Tryd.ntmps44
    go_wp2_with fail
    go_ret
    exact ⟨ret_b H.out, Below.refl _ _⟩
  have h1' : (s.toList == [46, 46, 46]) = false := by simpa using h1
  have h2' : (s.toList == [95]) = false := by simpa using h2
  have H1 := Lib.hid h1
  have H2 := Lib.hid h2
  clear h1 h2
  go_enter Tryd.func44, Tryd.ntmps44
  go_wp2_with fail
  go_loopg [3, 4] s.size (fun kq v3 v4 w' => ∃ i : Nat, i ≤ s.size ∧ s.size - i ≤ kq ∧ v3 = .int .i64 i ∧ Aside0 (∀ j (h : j < s.size), j < i → (letterB s[j].toNat || (!((j : Int) == 0) && digitB s[j].toNat)) = true) ∧ Aside0 (Below w.heap.size w w'))
  case atStart => exact ⟨0, Nat.zero_le _, by omega, rfl, ⟨fun j _ h => absurd h (by omega)⟩, ⟨Below.refl _ _⟩⟩
  case round =>
    obtain ⟨i, hi, hg, rfl, HN, HW⟩ := hrel
    by_cases hlt : i < s.size
    · have hd1 : decide ((i : Int) < (s.size : Int)) = true := decide_eq_true (by omega)
      obtain ⟨hc0, hc1⟩ := byte_lt s i hlt
      have HS := Lib.hid (signs (s[i].toNat : Int) hc0 hc1)
      have HK : Hid ((letterB s[i].toNat || (!((i : Int) == 0) && digitB s[i].toNat)) = true → ∀ j (h : j < s.size), j < i + 1 → (letterB s[j].toNat || (!((j : Int) == 0) && digitB s[j].toNat)) = true) := Lib.hid (fun hb j hj hji => by
        rcases Nat.lt_or_ge j i with h | h
        · exact HN.out j hj h
        · obtain rfl : j = i := by omega
          exact hb)
      have HF : Hid ((letterB s[i].toNat || (!((i : Int) == 0) && digitB s[i].toNat)) = false → false = nmB s) := Lib.hid (fun hb => nmB_f (by
          rintro (h | h | ⟨_, _, h⟩)
          · exact H1.out h
          · exact H2.out h
          · have := h i hlt
            rw [hb] at this
            cases this))
      clear HN
      have hI : ∀ W, Calls Tryd.prog 72 #[.string ⟨#[42, 63, 61, 43, 60]⟩, .int .u8 (s[i].toNat : Int)] W (fun e w' => e = .returned (.int .i64 (Lib.indexByte [42, 63, 61, 43, 60] (s[i].toNat : Int).toNat.toUInt8)) ∧ w' = W) := fun W => indexByte_any _ _ W
      have HI := Lib.hid hI
      clear hI
      generalize Lib.indexByte [42, 63, 61, 43, 60] (s[i].toNat : Int).toNat.toUInt8 = r at HI HS
      by_cases hA : 97 ≤ (s[i].toNat : Int) ∧ (s[i].toNat : Int) ≤ 122
      · obtain ⟨a1, a2⟩ := hA
        have HG := Lib.hid (show (letterB (s[i].toNat : Int) || (!((i : Int) == 0) && digitB (s[i].toNat : Int))) = true by simp [letterB, a1, a2])
        have a1' := decide_eq_true a1
        have a2' := decide_eq_true a2
        go_wp2_with fail
        go_roundg (s.size - (i + 1))
        case measure => omega
        case rel => exact ⟨i + 1, by omega, Nat.le_refl _, by go_num, ⟨HK.out HG.out⟩, ⟨HW.out⟩⟩
      · have hA' : (decide (97 ≤ (s[i].toNat : Int)) && decide ((s[i].toNat : Int) ≤ 122)) = false := by rw [Bool.eq_false_iff]; simp; omega
        have HA := Lib.hid hA'
        clear hA'
        by_cases a1 : 97 ≤ (s[i].toNat : Int)
        · have a2 : 122 < (s[i].toNat : Int) := by omega
          clear hA
          have a1' := decide_eq_true a1
          have a2' : decide ((s[i].toNat : Int) ≤ 122) = false := decide_eq_false (by omega)
          go_wp2_with fail
          refine (HI.out wr).mono ?_
          rintro e w1 ⟨rfl, rfl⟩
          by_cases hr : 0 ≤ r
          · have HG := Lib.hid (show (letterB (s[i].toNat : Int) || (!((i : Int) == 0) && digitB (s[i].toNat : Int))) = true by
              have := HS.out; rw [decide_eq_true hr] at this; unfold letterB; rw [HA.out]; simp at this ⊢; left; omega)
            have hr' := decide_eq_true hr
            go_wp2_with fail
            go_roundg (s.size - (i + 1))
            case measure => omega
            case rel => exact ⟨i + 1, by omega, Nat.le_refl _, by go_num, ⟨HK.out HG.out⟩, ⟨HW.out⟩⟩
          · have hr' : decide (0 ≤ r) = false := decide_eq_false hr
            have HG := Lib.hid (show (letterB (s[i].toNat : Int) || (!((i : Int) == 0) && digitB (s[i].toNat : Int))) = false by
              have := HS.out; rw [decide_eq_false hr] at this; unfold letterB digitB; rw [HA.out]; simp at this ⊢; omega)
            have e45 : ((s[i].toNat : Int) == 45) = false := by simp; omega
            have e48 : decide (48 ≤ (s[i].toNat : Int)) = true := decide_eq_true (by omega)
            have e57 : decide ((s[i].toNat : Int) ≤ 57) = false := decide_eq_false (by omega)
            by_cases i0 : 0 < i
            · have i0' : decide ((0 : Int) < (i : Int)) = true := decide_eq_true (by omega)
              go_wp2_with fail
              go_ret
              exact ⟨ret_b (HF.out HG.out), HW.out⟩
            · have i0' : decide ((0 : Int) < (i : Int)) = false := decide_eq_false (by omega)
              go_wp2_with fail
              go_ret
              exact ⟨ret_b (HF.out HG.out), HW.out⟩
        · have a1' : decide (97 ≤ (s[i].toNat : Int)) = false := decide_eq_false a1
          clear hA
          go_wp2_with fail
          refine (HI.out wr).mono ?_
          rintro e w1 ⟨rfl, rfl⟩
          by_cases hr : 0 ≤ r
          · have HG := Lib.hid (show (letterB (s[i].toNat : Int) || (!((i : Int) == 0) && digitB (s[i].toNat : Int))) = true by
              have := HS.out; rw [decide_eq_true hr] at this; unfold letterB; rw [HA.out]; simp at this ⊢; left; omega)
            have hr' := decide_eq_true hr
            go_wp2_with fail
            go_roundg (s.size - (i + 1))
            case measure => omega
            case rel => exact ⟨i + 1, by omega, Nat.le_refl _, by go_num, ⟨HK.out HG.out⟩, ⟨HW.out⟩⟩
          · have hr' : decide (0 ≤ r) = false := decide_eq_false hr
            have HL := Lib.hid (show letterB (s[i].toNat : Int) = false by
              have := HS.out; rw [decide_eq_false hr] at this; unfold letterB; rw [HA.out]; simp at this ⊢; omega)
            by_cases i0 : 0 < i
            · have i0' : decide ((0 : Int) < (i : Int)) = true := decide_eq_true (by omega)
              have HZ := Lib.hid (show ((i : Int) == 0) = false by simp; omega)
              by_cases hD : digitB (s[i].toNat : Int) = true
              · have HG := Lib.hid (show (letterB (s[i].toNat : Int) || (!((i : Int) == 0) && digitB (s[i].toNat : Int))) = true by rw [hD, HZ.out]; simp)
                by_cases d48 : 48 ≤ (s[i].toNat : Int)
                · have d57 : (s[i].toNat : Int) ≤ 57 := by simp [digitB, d48] at hD; omega
                  have d48' := decide_eq_true d48
                  have d57' := decide_eq_true d57
                  clear hD
                  go_wp2_with fail
                  go_roundg (s.size - (i + 1))
                  case measure => omega
                  case rel => exact ⟨i + 1, by omega, Nat.le_refl _, by go_num, ⟨HK.out HG.out⟩, ⟨HW.out⟩⟩
                · have d45 : ((s[i].toNat : Int) == 45) = true := by simp [digitB, d48] at hD; simp; omega
                  have d48' : decide (48 ≤ (s[i].toNat : Int)) = false := decide_eq_false d48
                  clear hD
                  go_wp2_with fail
                  go_roundg (s.size - (i + 1))
                  case measure => omega
                  case rel => exact ⟨i + 1, by omega, Nat.le_refl _, by go_num, ⟨HK.out HG.out⟩, ⟨HW.out⟩⟩
              · have HG := Lib.hid (show (letterB (s[i].toNat : Int) || (!((i : Int) == 0) && digitB (s[i].toNat : Int))) = false by rw [HL.out, Bool.eq_false_iff.2 hD]; simp)
                have d45 : ((s[i].toNat : Int) == 45) = false := by simp [digitB] at hD; simp; omega
                by_cases d48 : 48 ≤ (s[i].toNat : Int)
                · have d57' : decide ((s[i].toNat : Int) ≤ 57) = false := decide_eq_false (by simp [digitB, d48] at hD; omega)
                  have d48' := decide_eq_true d48
                  clear hD
                  go_wp2_with fail
                  go_ret
                  exact ⟨ret_b (HF.out HG.out), HW.out⟩
                · have d48' : decide (48 ≤ (s[i].toNat : Int)) = false := decide_eq_false d48
                  clear hD
                  go_wp2_with fail
                  go_ret
                  exact ⟨ret_b (HF.out HG.out), HW.out⟩
            · have i0' : decide ((0 : Int) < (i : Int)) = false := decide_eq_false (by omega)
              have HG := Lib.hid (show (letterB (s[i].toNat : Int) || (!((i : Int) == 0) && digitB (s[i].toNat : Int))) = false by
                obtain rfl : i = 0 := by omega
                rw [HL.out]; simp)
              go_wp2_with fail
              go_ret
              exact ⟨ret_b (HF.out HG.out), HW.out⟩
    · obtain rfl : i = s.size := by omega
      have HX : Hid (decide (1 ≤ (s.size : Int) ∧ (s.size : Int) ≤ 12) = nmB s) := Lib.hid (by
        by_cases g : 1 ≤ s.size ∧ s.size ≤ 12
        · rw [decide_eq_true (by omega)]
          exact nmB_t (.inr (.inr ⟨g.1, g.2, fun i h => HN.out i h h⟩))
        · rw [decide_eq_false (by omega)]
          refine nmB_f ?_
          rintro (h | h | ⟨h, h', _⟩)
          · exact H1.out h
          · exact H2.out h
          · omega)
      go_wp2_with fail
      refine (within_any _ _ _ _).mono ?_
      rintro e w1 ⟨rfl, hb1⟩
      rw [HX.out]
      go_wp2_with fail
      go_ret
      exact ⟨rfl, below_step HW.out hb1⟩
end Go.Proofs.YteeepenncddnjaaDoor
end
section
namespace Go.Proofs.YteeepenncddnjaaDoor
open Go.RowKit Go.Proofs.YteeepenncddnjaaDoorW.PrintWords Go.Proofs.YteeepenncddnjaaDoorW.PrintLast Go.Proofs.YteeepenncddnjaaDoorW.PrintMore
set_option linter.unusedVariables false
set_option linter.unusedSimpArgs false
end Go.Proofs.YteeepenncddnjaaDoor
end
section
namespace Go.Proofs.YteeepenncddnjaaDoor
open Go.RowKit Go.Proofs.YteeepenncddnjaaDoorW.PrintWords Go.Proofs.YteeepenncddnjaaDoorW.PrintLast Go.Proofs.YteeepenncddnjaaDoorW.PrintMore
set_option linter.unusedVariables false
set_option linter.unusedSimpArgs false
def IsOk : Nat → Fm → Prop
  | 0, _ => False
  | n + 1, x => (x.f0 = 1 ∧ NmOk x.f1 ∧ x.f2 = 0 ∧ ScOk x.f3 ∧ x.f4.length = 0) ∨ (x.f0 = 2 ∧ x.f1.toList = [] ∧ 0 ≤ x.f2 ∧ x.f2 ≤ 999 ∧ x.f3.length = 0 ∧ x.f4.length = 0) ∨ (x.f0 = 3 ∧ x.f1.toList = [] ∧ x.f2 = 0 ∧ x.f3.length = 0 ∧ ∀ k, k ∈ x.f4 → IsOk n k)
theorem isOk1 {n : Nat} {x : Fm} (h : x.f0 = 1) : IsOk (n + 1) x ↔ NmOk x.f1 ∧ x.f2 = 0 ∧ ScOk x.f3 ∧ x.f4.length = 0 := by
  unfold IsOk
  constructor
  · rintro (⟨_, h⟩ | ⟨h2, _⟩ | ⟨h2, _⟩)
    · exact h
    · omega
    · omega
  · exact fun h2 => .inl ⟨h, h2⟩
theorem isOk2 {n : Nat} {x : Fm} (h : x.f0 = 2) : IsOk (n + 1) x ↔ x.f1.toList = [] ∧ 0 ≤ x.f2 ∧ x.f2 ≤ 999 ∧ x.f3.length = 0 ∧ x.f4.length = 0 := by
  unfold IsOk
  constructor
  · rintro (⟨h2, _⟩ | ⟨_, h⟩ | ⟨h2, _⟩)
    · omega
    · exact h
    · omega
  · exact fun h2 => .inr (.inl ⟨h, h2⟩)
theorem isOk3 {n : Nat} {x : Fm} (h1 : x.f0 ≠ 1) (h2 : x.f0 ≠ 2) : IsOk (n + 1) x ↔ x.f0 = 3 ∧ x.f1.toList = [] ∧ x.f2 = 0 ∧ x.f3.length = 0 ∧ ∀ k, k ∈ x.f4 → IsOk n k := by
  conv => lhs; unfold IsOk
  constructor
  · rintro (⟨h, _⟩ | ⟨h, _⟩ | h)
    · exact absurd h h1
    · exact absurd h h2
    · exact h
  · exact fun h => .inr (.inr h)
theorem name_size {x : Fm} (h : x.tot ≤ 1048576) : x.f1.size ≤ 140737488351232 := by rw [Fm.tot_eq] at h; omega
theorem kid_tot {x k : Fm} (h : x.tot ≤ 1048576) (hk : k ∈ x.f4) : k.tot ≤ 1048576 := by
  have := totL_mem hk
  rw [Fm.tot_eq] at h
  omega
def FmOk (x : Fm) : Prop := IsOk 40 x ∧ x.size ≤ 400
end Go.Proofs.YteeepenncddnjaaDoor
end
section
namespace Go.Proofs.YteeepenncddnjaaDoor
open Go.RowKit Go.Proofs.YteeepenncddnjaaDoorW.PrintWords Go.Proofs.YteeepenncddnjaaDoorW.PrintLast Go.Proofs.YteeepenncddnjaaDoorW.PrintMore
set_option linter.unusedVariables false
set_option linter.unusedSimpArgs false
def LeftAt (w : World) (g : Nat) (L : Int) : Prop := w.heap[g]? = some (.cells #[.int .i64 L] 3 (0, 0))
def OkPost (n : Nat) (x : Fm) (L : Int) (g : Nat) (w0 : World) (e : Ending) (w' : World) : Prop :=
  ∃ b, e = .returned (.bool b) ∧ (b = true ↔ IsOk n x ∧ (x.size : Int) ≤ L) ∧ Below w0.heap.size w0 w' ∧ (b = true → LeftAt w' g (L - x.size))
theorem okPost_no {n : Nat} {x : Fm} {L : Int} {g : Nat} {w0 w' : World} (h : ¬ (IsOk n x ∧ (x.size : Int) ≤ L)) (hb : Below w0.heap.size w0 w') : OkPost n x L g w0 (.returned (.bool false)) w' :=
  ⟨false, rfl, ⟨(fun h => nomatch h), (fun h2 => absurd h2 h)⟩, hb, (fun h => nomatch h)⟩
theorem okPost_yes {n : Nat} {x : Fm} {L : Int} {g : Nat} {w0 w' : World} (h : IsOk n x ∧ (x.size : Int) ≤ L) (hb : Below w0.heap.size w0 w') (hl : LeftAt w' g (L - x.size)) : OkPost n x L g w0 (.returned (.bool true)) w' :=
  ⟨true, rfl, ⟨fun _ => h, fun _ => rfl⟩, hb, fun _ => hl⟩
set_option maxHeartbeats 8000000 in
set_option maxRecDepth 100000 in
theorem formOk_any : ∀ (n : Nat) (x : Fm) (A3 : Option Addr) (c3 : Nat) (A4 : Option Addr) (c4 : Nat) (d L : Int) (g : Nat) (w0 w : World), d + n = 41 → 1 ≤ d → 0 ≤ L → L ≤ 400 → x.tot ≤ 1048576 → FmIn w0 x A3 c3 A4 c4 → Below w0.heap.size w0 w → w0.heap.size ≤ g → LeftAt w g L →
    Calls Tryd.prog 36 #[.agg #[.int .i64 x.f0, .string x.f1, .int .i64 x.f2, .slice A3 x.f3.length c3, .slice A4 x.f4.length c4], .int .i64 d, .pointer (some ⟨g, 0, none⟩)] w (OkPost n x L g w0) := by
  intro n
  induction n with
  | zero =>
    intro x A3 c3 A4 c4 d L g w0 w hd hd1 hL0 hL1 ht hin hb hg hl
    have hgw : g < w.heap.size := by
      rcases Nat.lt_or_ge g w.heap.size with h | h
      · exact h
      · unfold LeftAt at hl; rw [Array.getElem?_eq_none h] at hl; cases hl
    have ka := blk_below hl (below_new w (.cells #[.int .i64 x.f0, .string x.f1, .int .i64 x.f2, .slice A3 x.f3.length c3, .slice A4 x.f4.length c4] 26))
    have hk0 := (blk_cell ka 0).trans (show _ = some (Value.int .i64 L) from rfl)
    have hf0 := blk_frozen ka 0
    have ks := blk_below (blk_set hl 0 (.int .i64 (L - 1))) (below_new (w.setCell ⟨g, 0, none⟩ (.int .i64 (L - 1))) (.cells #[.int .i64 x.f0, .string x.f1, .int .i64 x.f2, .slice A3 x.f3.length c3, .slice A4 x.f4.length c4] 26))
    have hk1 := (blk_cell ks 0).trans (show _ = some (Value.int .i64 (L - 1)) from by simp)
    have HB := Lib.hid (below_step (Below.setCell hb (p := ⟨g, 0, none⟩) hg (.int .i64 (L - 1))) (below_new (w.setCell ⟨g, 0, none⟩ (.int .i64 (L - 1))) (.cells #[.int .i64 x.f0, .string x.f1, .int .i64 x.f2, .slice A3 x.f3.length c3, .slice A4 x.f4.length c4] 26)))
    have h40 : d > 40 := by omega
    have t2 : decide (d > 40) = true := decide_eq_true (by omega)
    have t2' : decide (40 < d) = true := decide_eq_true (by omega)
    clear hin ht hb hl ka ks hd
    by_cases h0 : L - 1 < 0
    · have t1 : decide (L - 1 < 0) = true := decide_eq_true h0
      clear h0
      go_enter Tryd.func36, Tryd.ntmps36
      go_wp2_with fail


      go_ret
      exact okPost_no (fun h => h.1) HB.out
    · have t1 : decide (L - 1 < 0) = false := decide_eq_false h0
      clear h0
      go_enter Tryd.func36, Tryd.ntmps36
      go_wp2_with fail
      go_ret
      exact okPost_no (fun h => h.1) HB.out
  | succ n ih =>
    intro x A3 c3 A4 c4 d L g w0 w hd hd1 hL0 hL1 ht hin hb hg hl
    have hgw : g < w.heap.size := by
      rcases Nat.lt_or_ge g w.heap.size with h | h
      · exact h
      · unfold LeftAt at hl; rw [Array.getElem?_eq_none h] at hl; cases hl
    have ka := blk_below hl (below_new w (.cells #[.int .i64 x.f0, .string x.f1, .int .i64 x.f2, .slice A3 x.f3.length c3, .slice A4 x.f4.length c4] 26))
    have hk0 := (blk_cell ka 0).trans (show _ = some (Value.int .i64 L) from rfl)
    have hf0 := blk_frozen ka 0
    have ks := blk_below (blk_set hl 0 (.int .i64 (L - 1))) (below_new (w.setCell ⟨g, 0, none⟩ (.int .i64 (L - 1))) (.cells #[.int .i64 x.f0, .string x.f1, .int .i64 x.f2, .slice A3 x.f3.length c3, .slice A4 x.f4.length c4] 26))
    have hk1 := (blk_cell ks 0).trans (show _ = some (Value.int .i64 (L - 1)) from by simp)
    have KS : LeftAt ((w.setCell ⟨g, 0, none⟩ (.int .i64 (L - 1))).alloc (.cells #[.int .i64 x.f0, .string x.f1, .int .i64 x.f2, .slice A3 x.f3.length c3, .slice A4 x.f4.length c4] 26)) g (L - 1) := by simpa [LeftAt] using ks
    have hz0 := blk_new (w.setCell ⟨g, 0, none⟩ (.int .i64 (L - 1))) (.cells #[.int .i64 x.f0, .string x.f1, .int .i64 x.f2, .slice A3 x.f3.length c3, .slice A4 x.f4.length c4] 26)
    rw [show (w.setCell ⟨g, 0, none⟩ (.int .i64 (L - 1))).heap.size = w.heap.size from by simp] at hz0
    have HB0 := below_step (Below.setCell hb (p := ⟨g, 0, none⟩) hg (.int .i64 (L - 1))) (below_new (w.setCell ⟨g, 0, none⟩ (.int .i64 (L - 1))) (.cells #[.int .i64 x.f0, .string x.f1, .int .i64 x.f2, .slice A3 x.f3.length c3, .slice A4 x.f4.length c4] 26))
    have HB := Lib.hid HB0
    have hsz := Fm.size_eq x
    have hmax := hin.g4.2.1
    by_cases h0 : L - 1 < 0
    · have t1 : decide (L - 1 < 0) = true := decide_eq_true h0
      have H0 := Lib.hid (show ¬ ((x.size : Int) ≤ L) by omega)
      clear h0 hin ht hb hl ka ks hd hsz hz0 HB0 ih KS
      go_enter Tryd.func36, Tryd.ntmps36
      go_wp2_with fail
      go_ret
      exact okPost_no (fun h => by have h1 := H0.out; have h2 := h.2; omega) HB.out
    have t1 : decide (L - 1 < 0) = false := decide_eq_false h0
    have hd40 : d ≤ 40 := by omega
    have t2 : decide (d > 40) = false := decide_eq_false (by omega)
    have t2' : decide (40 < d) = false := decide_eq_false (by omega)
    have HD := Lib.hid hd
    have HI := Lib.hid (hin.below HB0)
    have HI0 := Lib.hid hin
    have HT := Lib.hid ht
    have IH := Lib.hid ih
    have HSZ := Lib.hid hsz
    have HKS := Lib.hid KS
    have HZ0 := Lib.hid hz0
    have HNm := Lib.hid (implName_any x.f1 ((w.setCell ⟨g, 0, none⟩ (.int .i64 (L - 1))).alloc (.cells #[.int .i64 x.f0, .string x.f1, .int .i64 x.f2, .slice A3 x.f3.length c3, .slice A4 x.f4.length c4] 26)) (name_size ht))
    have HWi := Lib.hid (within_any x.f2 0 999 ((w.setCell ⟨g, 0, none⟩ (.int .i64 (L - 1))).alloc (.cells #[.int .i64 x.f0, .string x.f1, .int .i64 x.f2, .slice A3 x.f3.length c3, .slice A4 x.f4.length c4] 26)))
    clear hd hin ht ih hsz KS ks hb hl ka HB0
    by_cases k1 : x.f0 = 1
    · have e1 : (x.f0 == 1) = true := by simpa using k1
      have K1 := Lib.hid k1
      clear k1 HWi hz0
      go_enter Tryd.func36, Tryd.ntmps36
      go_wp2_with fail
      refine HNm.out.mono ?_
      rintro e w1 ⟨rfl, hb1⟩
      have z1 := blk_below HZ0.out hb1
      have l1 := blk_below HKS.out hb1
      obtain ⟨p0, p1, p2, p3, p4⟩ := fm_cells z1
      have B1 := Lib.hid (below_step HB.out hb1)
      have HS := Lib.hid (scopesOk_any x.f3 A3 c3 w1 (Kd.C_below HI0.out.g3 B1.out) HI0.out.l3)
      clear hb1
      cases hq : nmB x.f1 with
      | false =>
        have HQ := Lib.hid hq
        clear hq
        go_wp2_with fail
        go_ret
        exact okPost_no (fun h => by have := nmB_t ((isOk1 K1.out).1 h.1).1; rw [HQ.out] at this; cases this) B1.out
      | true =>
        have HQ := Lib.hid hq
        clear hq
        by_cases h2 : x.f2 = 0
        · have t3 : (x.f2 == 0) = true := by simpa using h2
          have H2 := Lib.hid h2
          clear h2
          go_wp2_with fail
          refine HS.out.mono ?_
          rintro e w2 ⟨rfl, hb2⟩
          have z2 := blk_below z1 hb2
          have L2 := Lib.hid (blk_below l1 hb2)
          have B2 := Lib.hid (below_step B1.out hb2)
          clear hb2 z1 l1 p0 p1 p2 p3 p4
          obtain ⟨p0, p1, p2, p3, p4⟩ := fm_cells z2
          cases hq : pB (ScOk x.f3) with
          | false =>
            have HQ2 := Lib.hid hq
            clear hq
            go_wp2_with fail
            go_ret
            exact okPost_no (fun h => by have := pB_yes ((isOk1 K1.out).1 h.1).2.2.1; rw [HQ2.out] at this; cases this) B2.out
          | true =>
            have HQ2 := Lib.hid hq
            clear hq
            by_cases h3 : x.f4.length = 0
            · have t4 : ((x.f4.length : Int) == 0) = true := by rw [beq_iff_eq]; omega
              have H3 := Lib.hid h3
              have H0 := Lib.hid h0
              clear h3 h0
              go_wp2_with fail
              go_ret
              have hs1 : x.size = 1 := by have h1 := HSZ.out; rw [List.length_eq_zero_iff.1 H3.out] at h1; exact h1
              have hc1 : (x.size : Int) = 1 := by omega
              exact okPost_yes ⟨(isOk1 K1.out).2 ⟨(nmB_iff _).1 HQ.out, H2.out, pB_iff.1 HQ2.out, H3.out⟩, by have := H0.out; omega⟩ B2.out (by rw [hc1]; exact L2.out)
            · have t4 : ((x.f4.length : Int) == 0) = false := by rw [beq_eq_false_iff_ne]; omega
              have H3 := Lib.hid h3
              clear h3
              go_wp2_with fail
              go_ret
              exact okPost_no (fun h => H3.out ((isOk1 K1.out).1 h.1).2.2.2) B2.out
        · have t3 : (x.f2 == 0) = false := by simpa using h2
          have H2 := Lib.hid h2
          clear h2
          go_wp2_with fail
          go_ret
          exact okPost_no (fun h => H2.out ((isOk1 K1.out).1 h.1).2.1) B1.out
    have e1 : (x.f0 == 1) = false := by simpa using k1
    have K1 := Lib.hid k1
    clear k1 HNm
    obtain ⟨p0, p1, p2, p3, p4⟩ := fm_cells hz0
    by_cases k2 : x.f0 = 2
    · have e2 : (x.f0 == 2) = true := by simpa using k2
      have K2 := Lib.hid k2
      clear k2 hz0
      go_enter Tryd.func36, Tryd.ntmps36
      by_cases h1 : x.f1.toList = []
      · have t3 : (x.f1.toList == []) = true := by rw [h1]; rfl
        have H1 := Lib.hid h1
        clear h1
        go_wp2_with fail
        refine HWi.out.mono ?_
        rintro e w1 ⟨rfl, hb1⟩
        have z1 := blk_below HZ0.out hb1
        have L1 := Lib.hid (blk_below HKS.out hb1)
        have B1 := Lib.hid (below_step HB.out hb1)
        clear hb1 p0 p1 p2 p3 p4
        obtain ⟨p0, p1, p2, p3, p4⟩ := fm_cells z1
        by_cases h2 : 0 ≤ x.f2 ∧ x.f2 ≤ 999
        · rw [decide_eq_true h2]
          have H2 := Lib.hid h2
          clear h2
          by_cases h4 : x.f3.length = 0
          · have t4 : ((x.f3.length : Int) == 0) = true := by rw [beq_iff_eq]; omega
            have H4 := Lib.hid h4
            clear h4
            by_cases h5 : x.f4.length = 0
            · have t5 : ((x.f4.length : Int) == 0) = true := by rw [beq_iff_eq]; omega
              have H5 := Lib.hid h5
              have H0 := Lib.hid h0
              clear h5 h0
              go_wp2_with fail
              go_ret
              have hs1 : x.size = 1 := by have h1 := HSZ.out; rw [List.length_eq_zero_iff.1 H5.out] at h1; exact h1
              have hc1 : (x.size : Int) = 1 := by omega
              exact okPost_yes ⟨(isOk2 K2.out).2 ⟨H1.out, H2.out.1, H2.out.2, H4.out, H5.out⟩, by have := H0.out; omega⟩ B1.out (by rw [hc1]; exact L1.out)
            · have t5 : ((x.f4.length : Int) == 0) = false := by rw [beq_eq_false_iff_ne]; omega
              have H5 := Lib.hid h5
              clear h5
              go_wp2_with fail
              go_ret
              exact okPost_no (fun h => H5.out ((isOk2 K2.out).1 h.1).2.2.2.2) B1.out
          · have t4 : ((x.f3.length : Int) == 0) = false := by rw [beq_eq_false_iff_ne]; omega
            have H4 := Lib.hid h4
            clear h4
            go_wp2_with fail
            go_ret
            exact okPost_no (fun h => H4.out ((isOk2 K2.out).1 h.1).2.2.2.1) B1.out
        · rw [decide_eq_false h2]
          have H2 := Lib.hid h2
          clear h2
          go_wp2_with fail
          go_ret
          exact okPost_no (fun h => H2.out ⟨((isOk2 K2.out).1 h.1).2.1, ((isOk2 K2.out).1 h.1).2.2.1⟩) B1.out
      · have t3 : (x.f1.toList == []) = false := by rw [beq_eq_false_iff_ne]; exact h1
        have H1 := Lib.hid h1
        clear h1
        go_wp2_with fail
        go_ret
        exact okPost_no (fun h => H1.out ((isOk2 K2.out).1 h.1).1) HB.out
    have e2 : (x.f0 == 2) = false := by simpa using k2
    have K2 := Lib.hid k2
    clear k2 HWi
    by_cases k3 : x.f0 = 3
    · have e3 : (x.f0 == 3) = true := by simpa using k3
      have K3 := Lib.hid k3
      clear k3
      go_enter Tryd.func36, Tryd.ntmps36
      by_cases h1 : x.f1.toList = []
      · have t3 : (x.f1.toList != []) = false := by rw [h1]; rfl
        have t3' : (x.f1.toList == []) = true := by rw [h1]; rfl
        have H1 := Lib.hid h1
        clear h1
        by_cases h2 : x.f2 = 0
        · have t4 : (x.f2 != 0) = false := by simpa using h2
          have H2 := Lib.hid h2
          clear h2
          by_cases h4 : x.f3.length = 0
          · have t5 : decide ((x.f3.length : Int) > 0) = false := decide_eq_false (by omega)
            have t5' : decide ((0 : Int) < (x.f3.length : Int)) = false := decide_eq_false (by omega)
            have t5'' : decide (0 < x.f3.length) = false := decide_eq_false (by omega)
            have H4 := Lib.hid h4
            clear h4
            go_wp2_with fail
            go_loopg [8, 86] x.f4.length (fun kq v8 v86 w' => ∃ i : Nat, i ≤ x.f4.length ∧ x.f4.length - i ≤ kq ∧ v86 = .int .i64 i ∧ Aside0 (∀ j (h : j < x.f4.length), j < i → IsOk n x.f4[j]) ∧ Aside0 (Below w0.heap.size w0 w') ∧ Aside0 (LeftAt w' g (L - 1 - sizes (x.f4.take i))) ∧ Aside0 (0 ≤ L - 1 - (sizes (x.f4.take i) : Int)))
            case atStart => exact ⟨0, Nat.zero_le _, by omega, rfl, ⟨fun j _ h => absurd h (by omega)⟩, ⟨HB.out⟩, ⟨by simpa [sizes] using HKS.out⟩, ⟨by simp [sizes]; omega⟩⟩
            case round =>
              obtain ⟨i, hi, hg2, rfl, HN, HW, HL, HP⟩ := hrel
              by_cases hlt : i < x.f4.length
              · obtain ⟨ad, G3, m3, G4, m4, e, g0, g1, g2, g3, g4, hk⟩ := kid_at HI0.out.g4 i hlt
                subst e
                have q0 := ck0 HW.out g0
                have q1 := ck0 HW.out g1
                have q2 := ck0 HW.out g2
                have q3 := ck0 HW.out g3
                have q4 := ck0 HW.out g4
                have hst := sizes_take x.f4 i hlt
                have hle := sizes_take_le x.f4 (i + 1)
                have hP := HP.out
                have hfr : w0.heap.size ≤ wr.heap.size := HW.out.size
                have HC := Lib.hid (IH.out x.f4[i] G3 m3 G4 m4 (d + 1) (L - 1 - (sizes (x.f4.take i) : Int)) g w0 (wr.alloc (.cells #[.int .i64 x.f4[i].f0, .string x.f4[i].f1, .int .i64 x.f4[i].f2, .slice G3 x.f4[i].f3.length m3, .slice G4 x.f4[i].f4.length m4] 26)) (by have := HD.out; omega) (by omega) hP (by omega) (kid_tot HT.out (List.getElem_mem hlt)) hk (below_step HW.out (below_new _ _)) hg (blk_below HL.out (below_new _ _)))
                have HST := Lib.hid hst
                have HLE := Lib.hid hle
                clear hk g0 g1 g2 g3 g4 hst hle hP hfr
                go_wp2_with fail
                refine HC.out.mono ?_
                intro e w1 hpost
                obtain ⟨b, rfl, hiff, hb1, hl1⟩ := hpost
                have HF := Lib.hid hiff
                have HB1 := Lib.hid hb1
                have HL1 := Lib.hid hl1
                clear hiff hb1 hl1
                cases b with
                | true =>
                  go_wp2_with fail
                  go_roundg (x.f4.length - (i + 1))
                  case measure => omega
                  case rel =>
                    have h1 := HST.out
                    have h2 := HF.out.1 (by simp)
                    have h3 := HL1.out (by simp)
                    refine ⟨i + 1, by omega, Nat.le_refl _, by go_num, ⟨fun j hj hji => ?_⟩, ⟨HB1.out⟩, ⟨?_⟩, ⟨by rw [h1]; omega⟩⟩
                    · rcases Nat.lt_or_ge j i with h | h
                      · exact HN.out j hj h
                      · obtain rfl : j = i := by omega
                        exact h2.1
                    · rw [h1, show L - 1 - ((sizes (x.f4.take i) + x.f4[i].size : Nat) : Int) = L - 1 - (sizes (x.f4.take i) : Int) - (x.f4[i].size : Int) from by omega]
                      exact h3
                | false =>
                  go_wp2_with fail
                  go_ret
                  refine okPost_no (fun h => ?_) HB1.out
                  have h1 := HF.out.2 ⟨((isOk3 K1.out K2.out).1 h.1).2.2.2.2 _ (List.getElem_mem hlt), by have h1 := HST.out; have h2 := HLE.out; have h3 := HSZ.out; have h4 := h.2; omega⟩
                  cases h1
              · obtain rfl : i = x.f4.length := by omega
                go_wp2_with fail
                go_ret
                have hsum : (x.size : Int) = 1 + (sizes x.f4 : Int) := by have := HSZ.out; omega
                have hP := HP.out
                have hL := HL.out
                rw [List.take_length] at hP hL
                refine okPost_yes ⟨(isOk3 K1.out K2.out).2 ⟨K3.out, H1.out, H2.out, H4.out, fun k hk => ?_⟩, by omega⟩ HW.out (by rw [show L - (x.size : Int) = L - 1 - (sizes x.f4 : Int) from by omega]; exact hL)
                obtain ⟨j, hj, rfl⟩ := List.getElem_of_mem hk
                exact HN.out j hj hj
          · have t5 : decide ((x.f3.length : Int) > 0) = true := decide_eq_true (by omega)
            have t5' : decide ((0 : Int) < (x.f3.length : Int)) = true := decide_eq_true (by omega)
            have t5'' : decide (0 < x.f3.length) = true := decide_eq_true (by omega)
            have H4 := Lib.hid h4
            clear h4
            go_wp2_with fail
            go_ret
            exact okPost_no (fun h => H4.out ((isOk3 K1.out K2.out).1 h.1).2.2.2.1) HB.out
        · have t4 : (x.f2 != 0) = true := by simpa using h2
          have H2 := Lib.hid h2
          clear h2
          go_wp2_with fail
          go_ret
          exact okPost_no (fun h => H2.out ((isOk3 K1.out K2.out).1 h.1).2.2.1) HB.out
      · have t3 : (x.f1.toList != []) = true := by rw [bne_iff_ne]; exact h1
        have t3' : (x.f1.toList == []) = false := by rw [beq_eq_false_iff_ne]; exact h1
        have H1 := Lib.hid h1
        clear h1
        go_wp2_with fail
        go_ret
        exact okPost_no (fun h => H1.out ((isOk3 K1.out K2.out).1 h.1).2.1) HB.out
    have e3 : (x.f0 == 3) = false := by simpa using k3
    have K3 := Lib.hid k3
    clear k3
    go_enter Tryd.func36, Tryd.ntmps36
    go_wp2_with fail
    go_ret
    exact okPost_no (fun h => K3.out ((isOk3 K1.out K2.out).1 h.1).1) HB.out
theorem implValid_any (x : Fm) (A3 : Option Addr) (c3 : Nat) (A4 : Option Addr) (c4 : Nat) (w : World) (hin : FmIn w x A3 c3 A4 c4) (ht : x.tot ≤ 1048576) :
    Calls Tryd.prog 11 #[.agg #[.int .i64 x.f0, .string x.f1, .int .i64 x.f2, .slice A3 x.f3.length c3, .slice A4 x.f4.length c4]] w (Ret w (.bool (pB (FmOk x)))) := by
  have hb := below_step (below_new w (.cells #[.int .i64 x.f0, .string x.f1, .int .i64 x.f2, .slice A3 x.f3.length c3, .slice A4 x.f4.length c4] 26)) (below_new _ (.cells #[.int .i64 400] 3))
  have hl := blk_new (w.alloc (.cells #[.int .i64 x.f0, .string x.f1, .int .i64 x.f2, .slice A3 x.f3.length c3, .slice A4 x.f4.length c4] 26)) (.cells #[.int .i64 400] 3)
  rw [show (w.alloc (.cells #[.int .i64 x.f0, .string x.f1, .int .i64 x.f2, .slice A3 x.f3.length c3, .slice A4 x.f4.length c4] 26)).heap.size = w.heap.size + 1 from by simp] at hl
  have HC := Lib.hid (formOk_any 40 x A3 c3 A4 c4 1 400 (w.heap.size + 1) w _ (by omega) (by omega) (by omega) (by omega) ht hin hb (by omega) hl)
  clear hin ht hb hl
  go_enter Tryd.func11, Tryd.ntmps11
  go_wp2_with fail
  refine HC.out.mono ?_
  intro e w1 hpost
  obtain ⟨b, rfl, hiff, hb1, hl1⟩ := hpost
  have hv : b = pB (FmOk x) := pB_of ⟨fun h => ⟨(hiff.1 h).1, by have := (hiff.1 h).2; omega⟩, fun h => hiff.2 ⟨h.1, by have := h.2; omega⟩⟩
  have HV := Lib.hid hv
  have HB1 := Lib.hid hb1
  clear hiff hb1 hl1 hv HC
  go_wp2_with fail
  go_ret
  exact ⟨ret_b HV.out, HB1.out⟩
end Go.Proofs.YteeepenncddnjaaDoor
end
section
namespace Go.Proofs.YteeepenncddnjaaDoor
open Go.RowKit Go.Proofs.YteeepenncddnjaaDoorW.PrintWords Go.Proofs.YteeepenncddnjaaDoorW.PrintLast Go.Proofs.YteeepenncddnjaaDoorW.PrintMore
set_option linter.unusedVariables false
set_option linter.unusedSimpArgs false

noncomputable def eqB {α : Type} (x y : α) : Bool := @decide (x = y) (Classical.propDecidable _)
theorem eqB_iff {α : Type} {x y : α} : eqB x y = true ↔ x = y := by unfold eqB; exact @decide_eq_true_iff _ (Classical.propDecidable _)
theorem eqB_self {α : Type} (x : α) : eqB x x = true := eqB_iff.2 rfl
theorem eqB_no {α : Type} {x y : α} (h : x ≠ y) : false = eqB x y := by
  cases hb : eqB x y with
  | true => exact absurd (eqB_iff.1 hb) h
  | false => rfl
theorem eqB_yes {α : Type} {x y : α} (h : x = y) : true = eqB x y := (eqB_iff.2 h).symm
theorem toList_inj {a b : ByteArray} (h : a.toList = b.toList) : a = b := by
  have e : ∀ s : ByteArray, s.toList = s.data.toList := fun s => by rw [ByteArray.toList_eq]
  rw [e, e] at h
  cases a; cases b
  simp only at h
  rw [Array.toList_inj.1 h]
theorem Fm.ext' {x y : Fm} (h1 : x.f0 = y.f0) (h2 : x.f1 = y.f1) (h3 : x.f2 = y.f2) (h4 : x.f3 = y.f3) (h5 : x.f4 = y.f4) : x = y := by
  cases x; cases y; simp_all
def EqForm (x : Fm) : Prop := ∀ (y : Fm) (A3 : Option Addr) (c3 : Nat) (A4 : Option Addr) (c4 : Nat) (B3 : Option Addr) (d3 : Nat) (B4 : Option Addr) (d4 : Nat) (w : World), FmIn w x A3 c3 A4 c4 → FmIn w y B3 d3 B4 d4 →
    Calls Tryd.prog 24 #[.agg #[.int .i64 x.f0, .string x.f1, .int .i64 x.f2, .slice A3 x.f3.length c3, .slice A4 x.f4.length c4], .agg #[.int .i64 y.f0, .string y.f1, .int .i64 y.f2, .slice B3 y.f3.length d3, .slice B4 y.f4.length d4]] w (Ret w (.bool (eqB x y)))
end Go.Proofs.YteeepenncddnjaaDoor
end
section
namespace Go.Proofs.YteeepenncddnjaaDoor
open Go.RowKit Go.Proofs.YteeepenncddnjaaDoorW.PrintWords Go.Proofs.YteeepenncddnjaaDoorW.PrintLast Go.Proofs.YteeepenncddnjaaDoorW.PrintMore
set_option linter.unusedVariables false
set_option linter.unusedSimpArgs false

set_option maxHeartbeats 1000000 in
theorem l1Ints_any (xs ys : List Int) (A B : Option Addr) (c d : Nat) (w : World) (hr : kI.C w A xs.length xs) (hc : xs.length ≤ c) (hr2 : kI.C w B ys.length ys) (hc2 : ys.length ≤ d) :
    Calls Tryd.prog 35 #[.slice A xs.length c, .slice B ys.length d] w (Ret w (.bool (decide (xs = ys)))) := by
  have hmax := hr.2.1
  by_cases hl : xs.length = ys.length
  · have hl1 : ((xs.length : Int) == (ys.length : Int)) = true := by simp [hl]
    have hl2 : ((xs.length : Int) != (ys.length : Int)) = false := by simp [hl]
    have hl3 : (xs.length == ys.length) = true := by simp [hl]
    have hl4 : (xs.length != ys.length) = false := by simp [hl]
    have HL := Lib.hid hl
    clear hl
    go_enter Tryd.func35, Tryd.ntmps35
    go_wp2_with fail
    go_loopg [5] xs.length (fun kq v5 w' => ∃ i : Nat, i ≤ xs.length ∧ xs.length - i ≤ kq ∧ v5 = .int .i64 i ∧ Aside0 (∀ j (h : j < xs.length) (h2 : j < ys.length), j < i → xs[j] = ys[j]) ∧ Aside0 (Below w.heap.size w w'))
    case atStart => exact ⟨0, Nat.zero_le _, by omega, rfl, ⟨fun j _ _ h => absurd h (by omega)⟩, ⟨Below.refl _ _⟩⟩
    case round =>
      obtain ⟨i, hi, hg, rfl, HN, HW⟩ := hrel
      by_cases hlt : i < xs.length
      · have hlt2 : i < ys.length := by have := HL.out; omega
        obtain ⟨ad, e, hcell⟩ := int_at (Kd.C_below hr HW.out) i hlt
        subst e
        obtain ⟨ad2, e2, hcell2⟩ := int_at (Kd.C_below hr2 HW.out) i hlt2
        subst e2
        by_cases he : xs[i] = ys[i]
        · have hb1 : (xs[i] == ys[i]) = true := by simpa using he
          have hb2 : (xs[i] != ys[i]) = false := by simpa using he
          have HE := Lib.hid he
          clear he
          go_wp2_with fail
          go_quiet (fail)
          go_wp2_with fail
          go_roundg (xs.length - (i + 1))
          case measure => omega
          case rel =>
            refine ⟨i + 1, by omega, Nat.le_refl _, by go_num, ⟨fun j hj hj2 hji => ?_⟩, ⟨pw_below_drewN HW.out _⟩⟩
            rcases Nat.lt_or_ge j i with h | h
            · exact HN.out j hj hj2 h
            · obtain rfl : j = i := by omega
              exact HE.out
        · have hb1 : (xs[i] == ys[i]) = false := by simpa using he
          have hb2 : (xs[i] != ys[i]) = true := by simpa using he
          have HE := Lib.hid he
          clear he
          go_wp2_with fail
          go_quiet (fail)
          go_wp2_with fail
          go_ret
          refine ⟨ret_b (decide_eq_false (fun h => HE.out ?_)).symm, pw_below_drewN HW.out _⟩
          subst h
          rfl
      · obtain rfl : i = xs.length := by omega
        go_wp2_with fail
        go_ret
        refine ⟨ret_b (decide_eq_true (List.ext_getElem HL.out (fun j hj hj2 => HN.out j hj hj2 hj))).symm, HW.out⟩
  · have hl1 : ((xs.length : Int) == (ys.length : Int)) = false := by simp; omega
    have hl2 : ((xs.length : Int) != (ys.length : Int)) = true := by simp; omega
    have hl3 : (xs.length == ys.length) = false := by simp [hl]
    have hl4 : (xs.length != ys.length) = true := by simp [hl]
    have HL := Lib.hid hl
    clear hl
    go_enter Tryd.func35, Tryd.ntmps35
    go_wp2_with fail
    go_ret
    exact ⟨ret_b (decide_eq_false (fun h => HL.out (by rw [h]))).symm, Below.refl _ _⟩
set_option maxHeartbeats 1000000 in
theorem equalI_any (xs ys : List Int) (A B : Option Addr) (c d : Nat) (w : World) (hr : kI.C w A xs.length xs) (hc : xs.length ≤ c) (hr2 : kI.C w B ys.length ys) (hc2 : ys.length ≤ d) :
    Calls Tryd.prog 33 #[.slice A xs.length c, .slice B ys.length d] w (Ret w (.bool (decide (xs = ys)))) := by
  have hmax := hr.2.1
  by_cases hl : xs.length = ys.length
  · have hl1 : ((xs.length : Int) == (ys.length : Int)) = true := by simp [hl]
    have hl2 : ((xs.length : Int) != (ys.length : Int)) = false := by simp [hl]
    have hl3 : (xs.length == ys.length) = true := by simp [hl]
    have hl4 : (xs.length != ys.length) = false := by simp [hl]
    have HL := Lib.hid hl
    clear hl
    go_enter Tryd.func33, Tryd.ntmps33
    go_wp2_with fail
    go_loopg [5, 13] xs.length (fun kq v5 v13 w' => ∃ i : Nat, i ≤ xs.length ∧ xs.length - i ≤ kq ∧ v13 = .int .i64 i ∧ Aside0 (∀ j (h : j < xs.length) (h2 : j < ys.length), j < i → xs[j] = ys[j]) ∧ Aside0 (Below w.heap.size w w'))
    case atStart => exact ⟨0, Nat.zero_le _, by omega, rfl, ⟨fun j _ _ h => absurd h (by omega)⟩, ⟨Below.refl _ _⟩⟩
    case round =>
      obtain ⟨i, hi, hg, rfl, HN, HW⟩ := hrel
      by_cases hlt : i < xs.length
      · have hlt2 : i < ys.length := by have := HL.out; omega
        obtain ⟨ad, e, hcell⟩ := int_at (Kd.C_below hr HW.out) i hlt
        subst e
        obtain ⟨ad2, e2, hcell2⟩ := int_at (Kd.C_below hr2 HW.out) i hlt2
        subst e2
        by_cases he : xs[i] = ys[i]
        · have hb1 : (xs[i] == ys[i]) = true := by simpa using he
          have hb2 : (xs[i] != ys[i]) = false := by simpa using he
          have HE := Lib.hid he
          clear he
          go_wp2_with fail
          go_quiet (fail)
          go_wp2_with fail
          go_roundg (xs.length - (i + 1))
          case measure => omega
          case rel =>
            refine ⟨i + 1, by omega, Nat.le_refl _, by go_num, ⟨fun j hj hj2 hji => ?_⟩, ⟨pw_below_drewN HW.out _⟩⟩
            rcases Nat.lt_or_ge j i with h | h
            · exact HN.out j hj hj2 h
            · obtain rfl : j = i := by omega
              exact HE.out
        · have hb1 : (xs[i] == ys[i]) = false := by simpa using he
          have hb2 : (xs[i] != ys[i]) = true := by simpa using he
          have HE := Lib.hid he
          clear he
          go_wp2_with fail
          go_quiet (fail)
          go_wp2_with fail
          go_ret
          refine ⟨ret_b (decide_eq_false (fun h => HE.out ?_)).symm, pw_below_drewN HW.out _⟩
          subst h
          rfl
      · obtain rfl : i = xs.length := by omega
        go_wp2_with fail
        go_ret
        refine ⟨ret_b (decide_eq_true (List.ext_getElem HL.out (fun j hj hj2 => HN.out j hj hj2 hj))).symm, HW.out⟩
  · have hl1 : ((xs.length : Int) == (ys.length : Int)) = false := by simp; omega
    have hl2 : ((xs.length : Int) != (ys.length : Int)) = true := by simp; omega
    have hl3 : (xs.length == ys.length) = false := by simp [hl]
    have hl4 : (xs.length != ys.length) = true := by simp [hl]
    have HL := Lib.hid hl
    clear hl
    go_enter Tryd.func33, Tryd.ntmps33
    go_wp2_with fail
    go_ret
    exact ⟨ret_b (decide_eq_false (fun h => HL.out (by rw [h]))).symm, Below.refl _ _⟩
def SpecSame (x : Fm) : Prop := ∀ (y : Fm) (A3 : Option Addr) (c3 : Nat) (A4 : Option Addr) (c4 : Nat) (B3 : Option Addr) (d3 : Nat) (B4 : Option Addr) (d4 : Nat) (w : World), FmIn w x A3 c3 A4 c4 → FmIn w y B3 d3 B4 d4 →
    Calls Tryd.prog 10 #[.agg #[.int .i64 x.f0, .string x.f1, .int .i64 x.f2, .slice A3 x.f3.length c3, .slice A4 x.f4.length c4], .agg #[.int .i64 y.f0, .string y.f1, .int .i64 y.f2, .slice B3 y.f3.length d3, .slice B4 y.f4.length d4]] w (Ret w (.bool (eqB x y)))
set_option maxHeartbeats 4000000 in
set_option maxRecDepth 100000 in
theorem specSame_any (x : Fm) : SpecSame x := by
  induction x using Fm.ind with
  | h x ih =>
    intro y A3 c3 A4 c4 B3 d3 B4 d4 w hx hy
    have HX := Lib.hid (fun (h1 : x.f0 = y.f0) (h2 : x.f1 = y.f1) (h3 : x.f2 = y.f2) (h4 : x.f3 = y.f3) (h5 : x.f4 = y.f4) => Fm.ext' h1 h2 h3 h4 h5)
    have hb1 := below_new w (.cells #[.int .i64 x.f0, .string x.f1, .int .i64 x.f2, .slice A3 x.f3.length c3, .slice A4 x.f4.length c4] 26)
    have hb2 := below_step hb1 (below_new _ (.cells #[.int .i64 y.f0, .string y.f1, .int .i64 y.f2, .slice B3 y.f3.length d3, .slice B4 y.f4.length d4] 26))
    have HB := Lib.hid hb2
    by_cases e1 : x.f0 = y.f0
    · have t1 : (x.f0 == y.f0) = true := by simpa using e1
      have t1' : (x.f0 != y.f0) = false := by simpa using e1
      have E1 := Lib.hid e1
      clear e1
      by_cases e2 : x.f1 = y.f1
      · have t2 : (x.f1.toList == y.f1.toList) = true := by rw [e2]; simp
        have t2' : (x.f1.toList != y.f1.toList) = false := by rw [e2]; simp
        have E2 := Lib.hid e2
        clear e2
        by_cases e3 : x.f2 = y.f2
        · have t3 : (x.f2 == y.f2) = true := by simpa using e3
          have t3' : (x.f2 != y.f2) = false := by simpa using e3
          have E3 := Lib.hid e3
          clear e3
          have HC := Lib.hid (l1Ints_any x.f3 y.f3 A3 B3 c3 d3 _ (Kd.C_below hx.g3 hb2) hx.l3 (Kd.C_below hy.g3 hb2) hy.l3)
          have HK := Lib.hid (fun (k : Fm) (h : k ∈ x.f4) => ih k h)
          have HXY := Lib.hid (And.intro hx hy)
          have hmax := hx.g4.2.1
          clear ih hx hy hb1 hb2
          go_enter Tryd.func10, Tryd.ntmps10
          go_wp2_with fail
          refine HC.out.mono ?_
          rintro e w1 ⟨rfl, k1⟩
          have hz := blk_below (blk_below (blk_new w (.cells #[.int .i64 x.f0, .string x.f1, .int .i64 x.f2, .slice A3 x.f3.length c3, .slice A4 x.f4.length c4] 26)) (below_new _ _)) k1
          have hz2 := blk_below (blk_new (w.alloc (.cells #[.int .i64 x.f0, .string x.f1, .int .i64 x.f2, .slice A3 x.f3.length c3, .slice A4 x.f4.length c4] 26)) (.cells #[.int .i64 y.f0, .string y.f1, .int .i64 y.f2, .slice B3 y.f3.length d3, .slice B4 y.f4.length d4] 26)) k1
          rw [show (w.alloc (.cells #[.int .i64 x.f0, .string x.f1, .int .i64 x.f2, .slice A3 x.f3.length c3, .slice A4 x.f4.length c4] 26)).heap.size = w.heap.size + 1 from by simp] at hz2
          obtain ⟨_, _, _, _, q4⟩ := fm_cells hz
          obtain ⟨_, _, _, _, r4⟩ := fm_cells hz2
          have K1 := Lib.hid (below_step HB.out k1)
          clear hz hz2 k1
          by_cases e4 : x.f3 = y.f3
          · have E4 := Lib.hid e4
            rw [decide_eq_true e4]
            clear e4
            by_cases hl : x.f4.length = y.f4.length
            · have hl1 : ((x.f4.length : Int) == (y.f4.length : Int)) = true := by simp [hl]
              have hl2 : ((x.f4.length : Int) != (y.f4.length : Int)) = false := by simp [hl]
              have HL := Lib.hid hl
              have C1 := Lib.hid (Kd.C_below HXY.out.1.g4 K1.out)
              have C2 := Lib.hid (Kd.C_below HXY.out.2.g4 K1.out)
              clear hl
              go_wp2_with fail
              go_loopg [5] x.f4.length (fun kq v5 w' => ∃ i : Nat, i ≤ x.f4.length ∧ x.f4.length - i ≤ kq ∧ v5 = .int .i64 i ∧ Aside0 (∀ j (h : j < x.f4.length) (h2 : j < y.f4.length), j < i → x.f4[j] = y.f4[j]) ∧ Aside0 (Below w1.heap.size w1 w'))
              case atStart => exact ⟨0, Nat.zero_le _, by omega, rfl, ⟨fun j _ _ h => absurd h (by omega)⟩, ⟨Below.refl _ _⟩⟩
              case round =>
                obtain ⟨i, hi, hg, rfl, HN, HW⟩ := hrel
                have q6 := ck0 HW.out q4
                by_cases hlt : i < x.f4.length
                · have hlt2 : i < y.f4.length := by have := HL.out; omega
                  obtain ⟨ad, G3, m3, G4, m4, e, g0, g1, g2, g3, g4, hk⟩ := kid_at (Kd.C_below C1.out HW.out) i hlt
                  subst e
                  obtain ⟨ad2, E3, f3, E4, f4, e2, h0, h1, h2, h3, h4, hk2⟩ := kid_at (Kd.C_below C2.out HW.out) i hlt2
                  subst e2
                  have HC := Lib.hid (fun W (hb : Below wr.heap.size wr W) => HK.out x.f4[i] (List.getElem_mem hlt) y.f4[i] G3 m3 G4 m4 E3 f3 E4 f4 W (hk.below hb) (hk2.below hb))
                  clear hk hk2
                  have q5 := ck0 HW.out q4
                  have r5 := ck0 HW.out r4
                  have p1 : (0 : Int) ≤ (i : Int) := by omega
                  have p2 : (i : Int) < (x.f4.length : Int) := by omega
                  have p3 : (i : Int) < (y.f4.length : Int) := by omega
                  go_wp2_with fail
                  go_region_held3 (fun w' => w'.cell? ⟨w.heap.size, 4, none⟩ = some (.slice (some ad) x.f4.length c4) ∧ w'.cell? ⟨w.heap.size + 1, 4, none⟩ = some (.slice (some ad2) y.f4.length d4) ∧ w'.cell? (ad.add (i * 5)) = some (.int .i64 x.f4[i].f0) ∧ w'.cell? ⟨(ad.add (i * 5)).block, (ad.add (i * 5)).off + 1, none⟩ = some (.string x.f4[i].f1) ∧ w'.cell? ⟨(ad.add (i * 5)).block, (ad.add (i * 5)).off + 2, none⟩ = some (.int .i64 x.f4[i].f2) ∧ w'.cell? ⟨(ad.add (i * 5)).block, (ad.add (i * 5)).off + 3, none⟩ = some (.slice G3 x.f4[i].f3.length m3) ∧ w'.cell? ⟨(ad.add (i * 5)).block, (ad.add (i * 5)).off + 4, none⟩ = some (.slice G4 x.f4[i].f4.length m4) ∧ w'.cell? (ad2.add (i * 5)) = some (.int .i64 y.f4[i].f0) ∧ w'.cell? ⟨(ad2.add (i * 5)).block, (ad2.add (i * 5)).off + 1, none⟩ = some (.string y.f4[i].f1) ∧ w'.cell? ⟨(ad2.add (i * 5)).block, (ad2.add (i * 5)).off + 2, none⟩ = some (.int .i64 y.f4[i].f2) ∧ w'.cell? ⟨(ad2.add (i * 5)).block, (ad2.add (i * 5)).off + 3, none⟩ = some (.slice E3 y.f4[i].f3.length f3) ∧ w'.cell? ⟨(ad2.add (i * 5)).block, (ad2.add (i * 5)).off + 4, none⟩ = some (.slice E4 y.f4[i].f4.length f4)) (first | go_keep | exact ⟨ck hb1 q5, ck hb1 r5, ck hb1 g0, ck hb1 g1, ck hb1 g2, ck hb1 g3, ck hb1 g4, ck hb1 h0, ck hb1 h1, ck hb1 h2, ck hb1 h3, ck hb1 h4⟩) ((go_at_call 10; refine (HC.out _ (Below.refl _ _).drew).mono ?_; rintro e w2 ⟨rfl, hb1⟩))
                  cases he : eqB x.f4[i] y.f4[i] with
                  | true =>
                    have HE := Lib.hid (eqB_iff.1 he)
                    clear he
                    go_wp2_with fail
                    go_roundg (x.f4.length - (i + 1))
                    case measure => omega
                    case rel =>
                      refine ⟨i + 1, by omega, Nat.le_refl _, by go_num, ⟨fun j hj hj2 hji => ?_⟩, ⟨below_step HW.out (below_step (Below.refl _ _).drew hb1)⟩⟩
                      rcases Nat.lt_or_ge j i with h | h
                      · exact HN.out j hj hj2 h
                      · obtain rfl : j = i := by omega
                        exact HE.out
                  | false =>
                    have HE := Lib.hid he
                    clear he
                    go_wp2_with fail
                    go_ret
                    refine ⟨ret_b (eqB_no (fun h => ?_)), below_step K1.out (below_step HW.out (below_step (Below.refl _ _).drew hb1))⟩
                    have := HE.out
                    subst h
                    rw [eqB_self] at this
                    cases this
                · obtain rfl : i = x.f4.length := by omega
                  have q5 := ck0 HW.out q4
                  go_wp2_with fail
                  go_ret
                  exact ⟨ret_b (eqB_yes (HX.out E1.out E2.out E3.out E4.out (List.ext_getElem HL.out (fun j hj hj2 => HN.out j hj hj2 hj)))), below_step K1.out HW.out⟩
            · have hl1 : ((x.f4.length : Int) == (y.f4.length : Int)) = false := by rw [beq_eq_false_iff_ne]; omega
              have hl2 : ((x.f4.length : Int) != (y.f4.length : Int)) = true := by simp; omega
              have HL := Lib.hid hl
              clear hl
              go_wp2_with fail
              go_ret
              exact ⟨ret_b (eqB_no (fun h => HL.out (by rw [h]))), K1.out⟩
          · have E4 := Lib.hid e4
            rw [decide_eq_false e4]
            clear e4
            go_wp2_with fail
            go_ret
            exact ⟨ret_b (eqB_no (fun h => E4.out (by rw [h]))), K1.out⟩
        · have t3 : (x.f2 == y.f2) = false := by simpa using e3
          have t3' : (x.f2 != y.f2) = true := by simpa using e3
          have E3 := Lib.hid e3
          clear e3 ih hx hy hb1 hb2
          go_enter Tryd.func10, Tryd.ntmps10
          go_wp2_with fail
          go_ret
          exact ⟨ret_b (eqB_no (fun h => E3.out (by rw [h]))), HB.out⟩
      · have t2 : (x.f1.toList == y.f1.toList) = false := by rw [beq_eq_false_iff_ne]; exact fun h => e2 (toList_inj h)
        have t2' : (x.f1.toList != y.f1.toList) = true := by rw [bne_iff_ne]; exact fun h => e2 (toList_inj h)
        have E2 := Lib.hid e2
        clear e2 ih hx hy hb1 hb2
        go_enter Tryd.func10, Tryd.ntmps10
        go_wp2_with fail
        go_ret
        exact ⟨ret_b (eqB_no (fun h => E2.out (by rw [h]))), HB.out⟩
    · have t1 : (x.f0 == y.f0) = false := by simpa using e1
      have t1' : (x.f0 != y.f0) = true := by simpa using e1
      have E1 := Lib.hid e1
      clear e1 ih hx hy hb1 hb2
      go_enter Tryd.func10, Tryd.ntmps10
      go_wp2_with fail
      go_ret
      exact ⟨ret_b (eqB_no (fun h => E1.out (by rw [h]))), HB.out⟩
def ImplSame (x : Fm) : Prop := ∀ (y : Fm) (A3 : Option Addr) (c3 : Nat) (A4 : Option Addr) (c4 : Nat) (B3 : Option Addr) (d3 : Nat) (B4 : Option Addr) (d4 : Nat) (w : World), FmIn w x A3 c3 A4 c4 → FmIn w y B3 d3 B4 d4 →
    Calls Tryd.prog 9 #[.agg #[.int .i64 x.f0, .string x.f1, .int .i64 x.f2, .slice A3 x.f3.length c3, .slice A4 x.f4.length c4], .agg #[.int .i64 y.f0, .string y.f1, .int .i64 y.f2, .slice B3 y.f3.length d3, .slice B4 y.f4.length d4]] w (Ret w (.bool (eqB x y)))
set_option maxHeartbeats 4000000 in
set_option maxRecDepth 100000 in
theorem equalFunc_of (ks ls : List Fm) (hks : ∀ k, k ∈ ks → ImplSame k) (A B : Option Addr) (c d : Nat) (w : World) (hr : kF.C w A ks.length ks) (hc : ks.length ≤ c) (hr2 : kF.C w B ls.length ls) (hc2 : ls.length ≤ d) :
    Calls Tryd.prog 34 #[.slice A ks.length c, .slice B ls.length d, .func (.func 9) #[] #[]] w (Ret w (.bool (eqB ks ls))) := by
  have eg : ∀ args w, (callFunc 9 args).run Tryd.prog w = .ok (.enter 9 args) w := enters_of Tryd.func9 (by kernel_rfl) rfl
  have hmax := hr.2.1
  by_cases hl : ks.length = ls.length
  · have hl1 : ((ks.length : Int) == (ls.length : Int)) = true := by simp [hl]
    have hl2 : ((ks.length : Int) != (ls.length : Int)) = false := by simp [hl]
    have HL := Lib.hid hl
    have HK := Lib.hid hks
    clear hl hks
    go_enter Tryd.func34, Tryd.ntmps34
    go_wp2_with fail
    go_loopg [7, 8, 9, 17] ks.length (fun kq v7 v8 v9 v17 w' => ∃ i : Nat, i ≤ ks.length ∧ ks.length - i ≤ kq ∧ v17 = .int .i64 i ∧ Aside0 (∀ j (h : j < ks.length) (h2 : j < ls.length), j < i → ks[j] = ls[j]) ∧ Aside0 (Below w.heap.size w w'))
    case atStart => exact ⟨0, Nat.zero_le _, by omega, rfl, ⟨fun j _ _ h => absurd h (by omega)⟩, ⟨Below.refl _ _⟩⟩
    case round =>
      obtain ⟨i, hi, hg, rfl, HN, HW⟩ := hrel
      by_cases hlt : i < ks.length
      · have hlt2 : i < ls.length := by have := HL.out; omega
        obtain ⟨ad, G3, m3, G4, m4, e, g0, g1, g2, g3, g4, hk⟩ := kid_at (Kd.C_below hr HW.out) i hlt
        subst e
        obtain ⟨ad2, E3, f3, E4, f4, e2, h0, h1, h2, h3, h4, hk2⟩ := kid_at (Kd.C_below hr2 HW.out) i hlt2
        subst e2
        have HC := Lib.hid (fun W (hb : Below wr.heap.size wr W) => HK.out ks[i] (List.getElem_mem hlt) ls[i] G3 m3 G4 m4 E3 f3 E4 f4 W (hk.below hb) (hk2.below hb))
        clear hk hk2
        have hn := below_new wr (.cells #[.int .i64 ks[i].f0, .string ks[i].f1, .int .i64 ks[i].f2, .slice G3 ks[i].f3.length m3, .slice G4 ks[i].f4.length m4] 26)
        have k0 := ck0 hn h0
        have k1 := ck0 hn h1
        have k2 := ck0 hn h2
        have k3 := ck0 hn h3
        have k4 := ck0 hn h4
        clear hn
        go_wp2_with fail
        refine (HC.out _ (below_step (below_new _ _) (below_new _ _))).mono ?_
        rintro e w1 ⟨rfl, hb1⟩
        obtain ⟨_, _, b1⟩ := two_new hb1
        have B1 := Lib.hid b1
        clear hb1 b1
        cases he : eqB ks[i] ls[i] with
        | true =>
          have HE := Lib.hid (eqB_iff.1 he)
          clear he
          go_wp2_with fail
          go_roundg (ks.length - (i + 1))
          case measure => omega
          case rel =>
            refine ⟨i + 1, by omega, Nat.le_refl _, by go_num, ⟨fun j hj hj2 hji => ?_⟩, ⟨below_step HW.out B1.out⟩⟩
            rcases Nat.lt_or_ge j i with h | h
            · exact HN.out j hj hj2 h
            · obtain rfl : j = i := by omega
              exact HE.out
        | false =>
          have HE := Lib.hid he
          clear he
          go_wp2_with fail
          go_ret
          refine ⟨ret_b (eqB_no (fun h => ?_)), below_step HW.out B1.out⟩
          have := HE.out
          subst h
          rw [eqB_self] at this
          cases this
      · obtain rfl : i = ks.length := by omega
        go_wp2_with fail
        go_ret
        exact ⟨ret_b (eqB_yes (List.ext_getElem HL.out (fun j hj hj2 => HN.out j hj hj2 hj))), HW.out⟩
  · have hl2 : ((ks.length : Int) != (ls.length : Int)) = true := by simp; omega
    have hl1 : ((ks.length : Int) == (ls.length : Int)) = false := by rw [beq_eq_false_iff_ne]; omega
    have HL := Lib.hid hl
    clear hl
    go_enter Tryd.func34, Tryd.ntmps34
    go_wp2_with fail
    go_ret
    exact ⟨ret_b (eqB_no (fun h => HL.out (by rw [h]))), Below.refl _ _⟩
set_option maxHeartbeats 4000000 in
theorem implSame_any (x : Fm) : ImplSame x := by
  induction x using Fm.ind with
  | h x ih =>
    intro y A3 c3 A4 c4 B3 d3 B4 d4 w hx hy
    have HX := Lib.hid (fun (h1 : x.f0 = y.f0) (h2 : x.f1 = y.f1) (h3 : x.f2 = y.f2) (h4 : x.f3 = y.f3) (h5 : x.f4 = y.f4) => Fm.ext' h1 h2 h3 h4 h5)
    have hb1 := below_new w (.cells #[.int .i64 x.f0, .string x.f1, .int .i64 x.f2, .slice A3 x.f3.length c3, .slice A4 x.f4.length c4] 26)
    have hb2 := below_step hb1 (below_new _ (.cells #[.int .i64 y.f0, .string y.f1, .int .i64 y.f2, .slice B3 y.f3.length d3, .slice B4 y.f4.length d4] 26))
    have HB := Lib.hid hb2
    by_cases e1 : x.f0 = y.f0
    · have t1 : (x.f0 == y.f0) = true := by simpa using e1
      have t1' : (x.f0 != y.f0) = false := by simpa using e1
      have E1 := Lib.hid e1
      clear e1
      by_cases e2 : x.f1 = y.f1
      · have t2 : (x.f1.toList == y.f1.toList) = true := by rw [e2]; simp
        have t2' : (x.f1.toList != y.f1.toList) = false := by rw [e2]; simp
        have E2 := Lib.hid e2
        clear e2
        by_cases e3 : x.f2 = y.f2
        · have t3 : (x.f2 == y.f2) = true := by simpa using e3
          have t3' : (x.f2 != y.f2) = false := by simpa using e3
          have E3 := Lib.hid e3
          clear e3
          have HC := Lib.hid (equalI_any x.f3 y.f3 A3 B3 c3 d3 _ (Kd.C_below hx.g3 hb2) hx.l3 (Kd.C_below hy.g3 hb2) hy.l3)
          have HK := Lib.hid (fun W hb => equalFunc_of x.f4 y.f4 ih A4 B4 c4 d4 W (Kd.C_below hx.g4 hb) hx.l4 (Kd.C_below hy.g4 hb) hy.l4)
          clear ih hx hy hb1 hb2
          go_enter Tryd.func9, Tryd.ntmps9
          go_wp2_with fail
          refine HC.out.mono ?_
          rintro e w1 ⟨rfl, k1⟩
          have hz := blk_below (blk_below (blk_new w (.cells #[.int .i64 x.f0, .string x.f1, .int .i64 x.f2, .slice A3 x.f3.length c3, .slice A4 x.f4.length c4] 26)) (below_new _ _)) k1
          have hz2 := blk_below (blk_new (w.alloc (.cells #[.int .i64 x.f0, .string x.f1, .int .i64 x.f2, .slice A3 x.f3.length c3, .slice A4 x.f4.length c4] 26)) (.cells #[.int .i64 y.f0, .string y.f1, .int .i64 y.f2, .slice B3 y.f3.length d3, .slice B4 y.f4.length d4] 26)) k1
          rw [show (w.alloc (.cells #[.int .i64 x.f0, .string x.f1, .int .i64 x.f2, .slice A3 x.f3.length c3, .slice A4 x.f4.length c4] 26)).heap.size = w.heap.size + 1 from by simp] at hz2
          obtain ⟨_, _, _, _, q4⟩ := fm_cells hz
          obtain ⟨_, _, _, _, r4⟩ := fm_cells hz2
          have K1 := Lib.hid (below_step HB.out k1)
          clear hz hz2 k1
          by_cases e4 : x.f3 = y.f3
          · have E4 := Lib.hid e4
            rw [decide_eq_true e4]
            clear e4
            go_wp2_with fail
            refine (HK.out _ K1.out).mono ?_
            rintro e w2 ⟨rfl, k2⟩
            cases e5 : eqB x.f4 y.f4 with
            | true =>
              have E5 := Lib.hid (eqB_iff.1 e5)
              clear e5
              go_wp2_with fail
              go_ret
              exact ⟨ret_b (eqB_yes (HX.out E1.out E2.out E3.out E4.out E5.out)), below_step K1.out k2⟩
            | false =>
              have E5 := Lib.hid e5
              clear e5
              go_wp2_with fail
              go_ret
              refine ⟨ret_b (eqB_no (fun h => ?_)), below_step K1.out k2⟩
              have := E5.out
              rw [h, eqB_self] at this
              cases this
          · have E4 := Lib.hid e4
            rw [decide_eq_false e4]
            clear e4
            go_wp2_with fail
            go_ret
            exact ⟨ret_b (eqB_no (fun h => E4.out (by rw [h]))), K1.out⟩
        · have t3 : (x.f2 == y.f2) = false := by simpa using e3
          have t3' : (x.f2 != y.f2) = true := by simpa using e3
          have E3 := Lib.hid e3
          clear e3 ih hx hy hb1 hb2
          go_enter Tryd.func9, Tryd.ntmps9
          go_wp2_with fail
          go_ret
          exact ⟨ret_b (eqB_no (fun h => E3.out (by rw [h]))), HB.out⟩
      · have t2 : (x.f1.toList == y.f1.toList) = false := by rw [beq_eq_false_iff_ne]; exact fun h => e2 (toList_inj h)
        have t2' : (x.f1.toList != y.f1.toList) = true := by rw [bne_iff_ne]; exact fun h => e2 (toList_inj h)
        have E2 := Lib.hid e2
        clear e2 ih hx hy hb1 hb2
        go_enter Tryd.func9, Tryd.ntmps9
        go_wp2_with fail
        go_ret
        exact ⟨ret_b (eqB_no (fun h => E2.out (by rw [h]))), HB.out⟩
    · have t1 : (x.f0 == y.f0) = false := by simpa using e1
      have t1' : (x.f0 != y.f0) = true := by simpa using e1
      have E1 := Lib.hid e1
      clear e1 ih hx hy hb1 hb2
      go_enter Tryd.func9, Tryd.ntmps9
      go_wp2_with fail
      go_ret
      exact ⟨ret_b (eqB_no (fun h => E1.out (by rw [h]))), HB.out⟩
end Go.Proofs.YteeepenncddnjaaDoor
end
section
namespace Go.Proofs.YteeepenncddnjaaDoor.Q
open Go.RowKit Go.Proofs.YteeepenncddnjaaDoorW.PrintWords Go.Proofs.YteeepenncddnjaaDoorW.PrintLast Go.Proofs.YteeepenncddnjaaDoorW.PrintMore
set_option linter.unusedVariables false
set_option linter.unusedSimpArgs false

end Go.Proofs.YteeepenncddnjaaDoor.Q
end
section
namespace Go.Proofs.YteeepenncddnjaaDoor
open Go.RowKit Go.Proofs.YteeepenncddnjaaDoorW.PrintWords Go.Proofs.YteeepenncddnjaaDoor.Q
set_option linter.unusedVariables false
theorem bits_xor (a b : Nat) (ha : a < 2 ^ 40) (hb : b < 2 ^ 40) : bits .xor .i64 (a : Int) (b : Int) = ((a ^^^ b : Nat) : Int) := by
  have hp : (2 : Nat) ^ 40 ≤ 2 ^ IntKind.i64.bits := Nat.pow_le_pow_right (by decide) (by decide)
  have ha' : a % 2 ^ IntKind.i64.bits = a := Nat.mod_eq_of_lt (Nat.lt_of_lt_of_le ha hp)
  have hb' : b % 2 ^ IntKind.i64.bits = b := Nat.mod_eq_of_lt (Nat.lt_of_lt_of_le hb hp)
  simp only [bits, BitVec.ofInt_natCast, BitVec.toNat_xor, BitVec.toNat_ofNat, ha', hb']
  have h : a ^^^ b < 2 ^ 40 := Nat.xor_lt_two_pow ha hb
  rw [IntKind.wrap_i64]
  omega
/-- The bytes of an input. -/
def Bts (s : List Int) : Prop := s.length ≤ 2000 ∧ ∀ z, z ∈ s → 0 ≤ z ∧ z < 256
theorem rd_bts {s : List Int} (h : ∀ z, z ∈ s → 0 ≤ z ∧ z < 256) (i : Int) : 0 ≤ rd s i ∧ rd s i < 256 := by
  simp only [rd, List.getD]
  by_cases hi : i.toNat < s.length
  · rw [List.getElem?_eq_getElem hi]; exact h _ (List.getElem_mem hi)
  · rw [List.getElem?_eq_none (by omega)]; simp
theorem wr_in {n : Int} (h0 : 0 ≤ n) (h1 : n < 4611686018427387904) : wrap64 n = n := Go.IntWalk.wrap64_in _ ⟨by omega, by omega⟩
theorem wrN {m : Int} {n : Nat} (h : m = (n : Int)) (hn : n < 4611686018427387904) : wrap64 m = (n : Int) := by
  subst h
  exact wr_in (by omega) (by omega)
theorem pick_num (a c p dv u : Nat) (ha : a < 256) (hc : c < 256) (hp : p ≤ 1000000) (hd : dv ≤ p) (eu : u = a * 131 + c * 1117 + p * 29 + dv * 53) :
    wrap64 (a : Int) = (a : Int) ∧ wrap64 (c : Int) = (c : Int) ∧ wrap64 ((a : Int) * 131) = ((a * 131 : Nat) : Int) ∧ wrap64 ((c : Int) * 1117) = ((c * 1117 : Nat) : Int) ∧
    wrap64 (((a * 131 : Nat) : Int) + ((c * 1117 : Nat) : Int)) = ((a * 131 + c * 1117 : Nat) : Int) ∧ wrap64 ((p : Int) * 29) = ((p * 29 : Nat) : Int) ∧
    wrap64 (((a * 131 + c * 1117 : Nat) : Int) + ((p * 29 : Nat) : Int)) = ((a * 131 + c * 1117 + p * 29 : Nat) : Int) ∧ wrap64 (dv : Int) = (dv : Int) ∧
    wrap64 ((dv : Int) * 53) = ((dv * 53 : Nat) : Int) ∧ wrap64 (((a * 131 + c * 1117 + p * 29 : Nat) : Int) + ((dv * 53 : Nat) : Int)) = (u : Int) ∧
    wrap64 ((u / 64 : Nat) : Int) = ((u / 64 : Nat) : Int) ∧ bits .xor .i64 (u : Int) ((u / 64 : Nat) : Int) = ((u ^^^ (u / 64) : Nat) : Int) := by
  have hu : u < 1000000000 := by omega
  refine ⟨wrN rfl (by omega), wrN rfl (by omega), wrN (by simp) (by omega), wrN (by simp) (by omega), wrN (by simp) (by omega), wrN (by simp) (by omega), wrN (by simp) (by omega), wrN rfl (by omega), wrN (by simp) (by omega), wrN (by subst eu; simp) (by omega), wrN rfl (by omega), bits_xor _ _ (by omega) (by omega)⟩
theorem ev_pick {s : List Int} (hs : Bts s) (p : Nat) (hp : p ≤ 1000000) (n : Int) (hn : n ≤ 1000000) :
    ∃ v : Int, (1 ≤ n → 0 ≤ v ∧ v < n) ∧ Ev (fun k => spec_l15Rd_pick.f k s (p : Int) n) (v, ((p + 1 : Nat) : Int)) := by
  obtain ⟨hl, hb⟩ := hs
  have e1 : wrap64 ((p : Int) + 1) = ((p + 1 : Nat) : Int) := wr1 p (by omega)
  have e2 : wrap64 (((p + 1 : Nat) : Int) - 1) = (p : Int) := by rw [wr_in (by omega) (by omega)]; omega
  by_cases h1 : n < 1
  · refine ⟨0, fun h => by omega, ?_⟩
    simp only [spec_l15Rd_pick.f]
    refine Ev.pos h1 (Ev.step (fun k => by rw [spec_l15Rd_pick.j0]) (Ev.pos rfl ?_))
    rw [e1]; exact Ev.now _
  · by_cases h2 : s.length = 0
    · refine ⟨0, fun h => by omega, ?_⟩
      simp only [spec_l15Rd_pick.f]
      refine Ev.neg h1 (Ev.step (fun k => by rw [spec_l15Rd_pick.j0]) (Ev.pos (by simp [h2]) ?_))
      rw [e1]; exact Ev.now _
    · have h0 : (s.length : Int) ≠ 0 := by omega
      by_cases h3 : (p : Int) < (s.length : Int)
      · have hv := rd_bts hb (p : Int)
        refine ⟨Int.tmod (rd s p) n, fun h => ⟨Int.tmod_nonneg _ hv.1, Int.tmod_lt_of_pos _ (by omega)⟩, ?_⟩
        simp only [spec_l15Rd_pick.f]
        refine Ev.neg h1 (Ev.step (fun k => by rw [spec_l15Rd_pick.j0]) (Ev.neg (by simpa using h0) ?_))
        rw [e1, e2, wr_in hv.1 (by omega)]
        exact Ev.pos h3 (Ev.pos (by omega) (Ev.neg (by omega) (Ev.now _)))
      · obtain ⟨q, eq⟩ : ∃ q : Nat, q = p % s.length := ⟨_, rfl⟩
        obtain ⟨t, et⟩ : ∃ t : Nat, t = (p * 7 + 3) % s.length := ⟨_, rfl⟩
        obtain ⟨dv, ed⟩ : ∃ dv : Nat, dv = p / s.length := ⟨_, rfl⟩
        have hq : q < s.length := by rw [eq]; exact Nat.mod_lt _ (by omega)
        have ht : t < s.length := by rw [et]; exact Nat.mod_lt _ (by omega)
        have hd : dv ≤ p := by rw [ed]; exact Nat.div_le_self _ _
        have m1 : Int.tmod (p : Int) (s.length : Int) = (q : Int) := by rw [eq]; exact Go.IntWalk.up_tmod rfl rfl
        have w1 : wrap64 ((p : Int) * 7) = ((p * 7 : Nat) : Int) := wrN (by omega) (by omega)
        have w2 : wrap64 (((p * 7 : Nat) : Int) + 3) = ((p * 7 + 3 : Nat) : Int) := wrN (by omega) (by omega)
        have m2 : Int.tmod ((p * 7 + 3 : Nat) : Int) (s.length : Int) = (t : Int) := by rw [et]; exact Go.IntWalk.up_tmod rfl rfl
        have ha := rd_bts hb (q : Int)
        have hc := rd_bts hb (t : Int)
        obtain ⟨a, ea⟩ := Int.eq_ofNat_of_zero_le ha.1
        obtain ⟨c, ec⟩ := Int.eq_ofNat_of_zero_le hc.1
        have d1 : Int.tdiv (p : Int) (s.length : Int) = (dv : Int) := by rw [ed]; exact Go.IntWalk.up_tdiv rfl rfl
        rw [ea] at ha
        rw [ec] at hc
        obtain ⟨u, eu⟩ : ∃ u : Nat, u = a * 131 + c * 1117 + p * 29 + dv * 53 := ⟨_, rfl⟩
        clear eq et ed
        obtain ⟨wa, wc, wa2, wc2, w3, w4, w5, w6, w7, w8, w9, wb⟩ := pick_num a c p dv u (Int.ofNat_lt.1 ha.2) (Int.ofNat_lt.1 hc.2) hp hd eu
        have d2 : Int.tdiv (u : Int) 64 = ((u / 64 : Nat) : Int) := Go.IntWalk.up_tdiv rfl rfl
        refine ⟨Int.tmod ((u ^^^ (u / 64) : Nat) : Int) n, fun h => ⟨Int.tmod_nonneg _ (by omega), Int.tmod_lt_of_pos _ (by omega)⟩, ?_⟩
        simp only [spec_l15Rd_pick.f]
        refine Ev.neg h1 (Ev.step (fun k => by rw [spec_l15Rd_pick.j0]) (Ev.neg (by simpa using h0) ?_))
        simp only [e1, e2, w1, w2, m1, m2, d1, ea, ec, wa, wc, wa2, wc2, w3, w4, w5, w6, w7, w8, d2, w9, wb]
        exact Ev.neg h3 (Ev.neg h0 (Ev.pos (by omega) (Ev.pos (by omega) (Ev.pos (by omega) (Ev.pos (by omega) (Ev.neg (by omega) (Ev.now _)))))))
theorem ev_num {s : List Int} (hs : Bts s) (p : Nat) (hp : p ≤ 1000000) (l : List Int) (h1 : l ≠ []) (h2 : l.length ≤ 1000) :
    ∃ v : Int, v ∈ l ∧ Ev (fun k => spec_l15Rd_num.f k s (p : Int) l) (v, ((p + 1 : Nat) : Int)) := by
  have hl : 0 < l.length := List.length_pos_iff.2 h1
  obtain ⟨v, hv, he⟩ := ev_pick hs p hp (l.length : Int) (by omega)
  obtain ⟨h0, hn⟩ := hv (by omega)
  refine ⟨rd l v, ?_, ?_⟩
  · have : v.toNat < l.length := by omega
    simp only [rd, List.getD, List.getElem?_eq_getElem this, Option.getD_some]
    exact List.getElem_mem this
  · simp only [spec_l15Rd_num.f]
    exact Ev.bind he (Ev.pos h0 (Ev.pos hn (Ev.now _)))
theorem ev_of {s : List Int} (hs : Bts s) (p : Nat) (hp : p ≤ 1000000) (l : List ByteArray) (h1 : l ≠ []) (h2 : l.length ≤ 1000) :
    ∃ v : ByteArray, v ∈ l ∧ Ev (fun k => spec_l15Rd_of.f k s (p : Int) l) (v, ((p + 1 : Nat) : Int)) := by
  have hl : 0 < l.length := List.length_pos_iff.2 h1
  obtain ⟨v, hv, he⟩ := ev_pick hs p hp (l.length : Int) (by omega)
  obtain ⟨h0, hn⟩ := hv (by omega)
  refine ⟨rdOf ByteArray.empty l v, ?_, ?_⟩
  · have : v.toNat < l.length := by omega
    simp only [rdOf, List.getD, List.getElem?_eq_getElem this, Option.getD_some]
    exact List.getElem_mem this
  · simp only [spec_l15Rd_of.f]
    exact Ev.bind he (Ev.pos h0 (Ev.pos hn (Ev.now _)))
theorem ev_open (l : List Int) (h : ∀ z, z ∈ l → 0 ≤ z ∧ z < 256) : ∃ s, Bts s ∧ spec_l15Open.f l = some (s, 0) := by
  unfold spec_l15Open.f
  by_cases h2 : (l.length : Int) > 2000
  · rw [if_pos h2, if_pos (by omega)]
    exact ⟨_, ⟨by simp; omega, fun z hz => h z (List.mem_of_mem_take hz)⟩, rfl⟩
  · rw [if_neg h2]
    exact ⟨_, ⟨by omega, h⟩, rfl⟩
end Go.Proofs.YteeepenncddnjaaDoor
end
section
namespace Go.Proofs.YteeepenncddnjaaDoor
open Go.RowKit Go.Proofs.YteeepenncddnjaaDoorW.PrintWords Go.Proofs.YteeepenncddnjaaDoorW.PrintLast Go.Proofs.YteeepenncddnjaaDoorW.PrintMore
set_option linter.unusedVariables false
set_option linter.unusedSimpArgs false
/-- What a function that draws a form leaves. -/
def DrPost (w0 : World) (g : Nat) (s : List Int) (q : Int) (y : Fm) (w : World) (e : Ending) (w' : World) : Prop :=
  ∃ v3 v4, e = .returned (.agg #[.int .i64 y.f0, .string y.f1, .int .i64 y.f2, v3, v4]) ∧ NewF w.heap.size w' y v3 v4 ∧ IsRd w0 w' g s q ∧ Below w0.heap.size w0 w' ∧ KeepBut w w' g none
def DressOk (s : List Int) (x : Fm) (p : Nat) (y : Fm) (q : Nat) : Prop := ∀ (g : Nat) (A3 : Option Addr) (c3 : Nat) (A4 : Option Addr) (c4 : Nat) (w0 w : World), IsRd w0 w g s (p : Int) → Below w0.heap.size w0 w → FmIn w x A3 c3 A4 c4 →
  Calls Tryd.prog 29 #[.pointer (some ⟨g, 0, none⟩), .agg #[.int .i64 x.f0, .string x.f1, .int .i64 x.f2, .slice A3 x.f3.length c3, .slice A4 x.f4.length c4]] w (DrPost w0 g s (q : Int) y w)
theorem add_plain (b i : Nat) : (⟨b, 0, none⟩ : Addr).add i = ⟨b, i, none⟩ := by unfold Addr.add; split <;> simp_all
/-- A block of numbers reads as_ a row. -/
theorem reads_block {W : World} {b : Nat} {cs : Array Value} {l : List Int} (hb : W.heap[b]? = some (.cells cs 3 (0, 0))) (hl : l.length ≤ 1000) (hcs : cs.toList = l.map (Value.int .i64)) : kI.C W (some ⟨b, 0, none⟩) l.length l := by
  refine Kd.C_of_reads (d := (0 : Int)) (h1 := fun _ => rfl) ⟨rfl, by omega, fun hn => ⟨⟨b, 0, none⟩, rfl, fun i hi => ?_⟩⟩
  rw [add_plain, blk_cell hb i]
  have h9 := congrArg (fun z => z[i]?) hcs
  simp only [Array.getElem?_toList, List.getElem?_map] at h9
  rw [h9, List.getElem?_eq_getElem hi, List.getD_eq_getElem?_getD, List.getElem?_eq_getElem hi]
  rfl
theorem alloc_at (w : World) (o : Obj) (k : Nat) : (w.alloc o).heap[k]? = if k = w.heap.size then some o else w.heap[k]? := by
  show (w.heap.push o)[k]? = _
  rw [Array.getElem?_push]
theorem alloc_size (w : World) (o : Obj) : (w.alloc o).heap.size = w.heap.size + 1 := by simp
abbrev sets7 : List (List Int) := [(([] : List Int)), (([1] : List Int)), (([2] : List Int)), (([1, 2] : List Int)), (([1, 3] : List Int)), (([1, 2, 3] : List Int)), (([99] : List Int))]
/-- The seven sets, laid one behind the other from block B on; the row of them; an empty row. -/
theorem sets_lit {U W2 : World} {B : Nat} (hB : U.heap.size = B) (hW : ∀ b, B ≤ b → b < B + 9 → W2.heap[b]? = (((((((((U.alloc (.cells #[] 3)).alloc (.cells #[.int .i64 1] 3)).alloc (.cells #[.int .i64 2] 3)).alloc (.cells #[.int .i64 1, .int .i64 2] 3)).alloc (.cells #[.int .i64 1, .int .i64 3] 3)).alloc (.cells #[.int .i64 1, .int .i64 2, .int .i64 3] 3)).alloc (.cells #[.int .i64 99] 3)).alloc (.cells #[.slice (some ⟨B, 0, none⟩) 0 0, .slice (some ⟨B + 1, 0, none⟩) 1 1, .slice (some ⟨B + 1 + 1, 0, none⟩) 1 1, .slice (some ⟨B + 1 + 1 + 1, 0, none⟩) 2 2, .slice (some ⟨B + 1 + 1 + 1 + 1, 0, none⟩) 2 2, .slice (some ⟨B + 1 + 1 + 1 + 1 + 1, 0, none⟩) 3 3, .slice (some ⟨B + 1 + 1 + 1 + 1 + 1 + 1, 0, none⟩) 1 1] 23)).alloc (.cells #[] 3)).heap[b]?) (j : Nat) (hj : j < 7) :
    ∃ A c, W2.cell? ⟨B + 1 + 1 + 1 + 1 + 1 + 1 + 1, j, none⟩ = some (.slice A (sets7[j]'hj).length c) ∧ (sets7[j]'hj).length ≤ c ∧ kI.C W2 A (sets7[j]'hj).length (sets7[j]'hj) ∧ W2.heap[B + 1 + 1 + 1 + 1 + 1 + 1 + 1 + 1]? = some (.cells #[] 3 (0, 0)) := by
  subst hB
  have h0 := hW U.heap.size (by omega) (by omega)
  have h1 := hW (U.heap.size + 1) (by omega) (by omega)
  have h2 := hW (U.heap.size + 2) (by omega) (by omega)
  have h3 := hW (U.heap.size + 3) (by omega) (by omega)
  have h4 := hW (U.heap.size + 4) (by omega) (by omega)
  have h5 := hW (U.heap.size + 5) (by omega) (by omega)
  have h6 := hW (U.heap.size + 6) (by omega) (by omega)
  have h7 := hW (U.heap.size + 7) (by omega) (by omega)
  have h8 := hW (U.heap.size + 8) (by omega) (by omega)
  clear hW
  simp only [alloc_at, alloc_size] at h0 h1 h2 h3 h4 h5 h6 h7 h8
  repeat (first | rw [if_pos (by omega)] at h0 | rw [if_neg (by omega)] at h0)
  repeat (first | rw [if_pos (by omega)] at h1 | rw [if_neg (by omega)] at h1)
  repeat (first | rw [if_pos (by omega)] at h2 | rw [if_neg (by omega)] at h2)
  repeat (first | rw [if_pos (by omega)] at h3 | rw [if_neg (by omega)] at h3)
  repeat (first | rw [if_pos (by omega)] at h4 | rw [if_neg (by omega)] at h4)
  repeat (first | rw [if_pos (by omega)] at h5 | rw [if_neg (by omega)] at h5)
  repeat (first | rw [if_pos (by omega)] at h6 | rw [if_neg (by omega)] at h6)
  repeat (first | rw [if_pos (by omega)] at h7 | rw [if_neg (by omega)] at h7)
  repeat (first | rw [if_pos (by omega)] at h8 | rw [if_neg (by omega)] at h8)
  have hcell : ∀ (b : Nat) (cs : Array Value) (u : Value) (i : Nat) (e : TypeId), W2.heap[b]? = some (.cells cs e (0, 0)) → cs[i]? = some u → W2.cell? ⟨b, i, none⟩ = some u := fun b cs u i e hb hu => (blk_cell hb i).trans hu
  rcases (show j = 0 ∨ j = 1 ∨ j = 2 ∨ j = 3 ∨ j = 4 ∨ j = 5 ∨ j = 6 by omega) with rfl | rfl | rfl | rfl | rfl | rfl | rfl
  · exact ⟨_, _, hcell _ _ _ _ _ h7 rfl, Nat.le_refl _, reads_block h0 (by simp) rfl, h8⟩
  · exact ⟨_, _, hcell _ _ _ _ _ h7 rfl, Nat.le_refl _, reads_block h1 (by simp) rfl, h8⟩
  · exact ⟨_, _, hcell _ _ _ _ _ h7 rfl, Nat.le_refl _, reads_block h2 (by simp) rfl, h8⟩
  · exact ⟨_, _, hcell _ _ _ _ _ h7 rfl, Nat.le_refl _, reads_block h3 (by simp) rfl, h8⟩
  · exact ⟨_, _, hcell _ _ _ _ _ h7 rfl, Nat.le_refl _, reads_block h4 (by simp) rfl, h8⟩
  · exact ⟨_, _, hcell _ _ _ _ _ h7 rfl, Nat.le_refl _, reads_block h5 (by simp) rfl, h8⟩
  · exact ⟨_, _, hcell _ _ _ _ _ h7 rfl, Nat.le_refl _, reads_block h6 (by simp) rfl, h8⟩
/-- The last five stores: the form goes into the result. -/
theorem Dr.put5 {w0 w W : World} {g : Nat} {s : List Int} {q : Int} (h : Dr w0 w g s q W) {b : Nat} (hb : w.heap.size ≤ b) (u0 u1 u2 u3 u4 : Value) : Dr w0 w g s q (((((W.setCell ⟨b, 0, none⟩ u0).setCell ⟨b, 1, none⟩ u1).setCell ⟨b, 2, none⟩ u2).setCell ⟨b, 3, none⟩ u3).setCell ⟨b, 4, none⟩ u4) :=
  ((((h.put hb _).put hb _).put hb _).put hb _).put hb _
set_option maxHeartbeats 4000000 in
set_option maxRecDepth 100000 in
theorem dress_walk {s : List Int} (x : Fm) (p p1 q : Nat) (j : Nat) (hj : j < 7) (y3 : List Int) (ys : List Fm) (ps : Nat → Nat) (ht : x.tot ≤ 100000) (hpick : Ev (fun k => Q.spec_l15Rd_pick.f k s (p : Int) 7) ((j : Int), ((p + 1 : Nat) : Int)))
    (h1 : p1 = if x.f0 = 1 then p + 1 else p) (h3 : y3 = if x.f0 = 1 then sets7[j] else x.f3) (hyl : ys.length = x.f4.length) (hp0 : ps 0 = p1) (hpn : ps x.f4.length = q) (hys : ∀ (i : Nat) (hi : i < x.f4.length) (hi2 : i < ys.length), DressOk s x.f4[i] (ps i) ys[i] (ps (i + 1))) : DressOk s x p ⟨x.f0, x.f1, x.f2, y3, ys⟩ q := by
  intro g A3 c3 A4 c4 w0 w hi hb hin
  have hmax := hin.g4.2.1
  have HI := Lib.hid hin
  have HD0 := Lib.hid (Dr.new hi hb)
  have HT := Lib.hid ht
  have H1 := Lib.hid h1
  have H3 := Lib.hid h3
  have HYL := Lib.hid hyl
  have HP0 := Lib.hid hp0
  have HPN := Lib.hid hpn
  have HYS := Lib.hid hys
  have HJ := Lib.hid hj
  obtain ⟨kp, hkp⟩ := hpick.rounds
  have HKP := Lib.hid hkp
  have r1 : (0 : Int) ≤ (j : Int) := by omega
  have r2 : (j : Int) < 7 := by omega
  have hlen := len_totL x.f4
  have hxt := x.tot_eq
  have HLN := Lib.hid (show x.f4.length ≤ 100000 by omega)
  clear hin hi hb ht h1 h3 hp0 hpn hys hpick hkp hlen hxt hyl
  go_enter Tryd.func29, Tryd.ntmps29
  go_wp2_with fail
  refine (l1Copy_any x A3 c3 A4 c4 _ (HI.out.below (below_step (below_new _ _) (below_new _ _))) (by have := HT.out; omega)).mono ?_
  rintro e w1 ⟨u3, u4, rfl, hn, hb1⟩
  obtain ⟨J3, q3, J4, q4, rfl, rfl⟩ : ∃ J3 q3 J4 q4, u3 = .slice J3 x.f3.length q3 ∧ u4 = .slice J4 x.f4.length q4 := by
    obtain ⟨fk, hk2, _⟩ := hn
    obtain ⟨J3, q3, J4, q4, e3, e4, _⟩ := hk2.In
    exact ⟨J3, q3, J4, q4, e3, e4⟩
  obtain ⟨k1, k2, b1⟩ := two_new hb1
  rw [show ((w.alloc (.cells #[.int .i64 x.f0, .string x.f1, .int .i64 x.f2, .slice A3 x.f3.length c3, .slice A4 x.f4.length c4] 26)).alloc (.cells #[.int .i64 0, .string ⟨#[]⟩, .int .i64 0, .slice none 0 0, .slice none 0 0] 26)).heap.size = w.heap.size + 2 from by simp] at hn
  obtain ⟨inner, fp, hdp⟩ := Dp.start (HD0.out.later b1) k1 k2 hn
  have HDP := Lib.hid hdp
  obtain ⟨p0, p1_, p2, p3, p4⟩ := fm_cells (blk_below k1 (below_new w1 (.cells #[.int .i64 x.f0, .string x.f1, .int .i64 x.f2, .slice J3 x.f3.length q3, .slice J4 x.f4.length q4] 26 (0, 0))))
  clear hb1 hn k1 k2 b1 hdp
  go_upto_if 12 with fail
  (try simp only [Act.put, List.setIfInBounds_toArray, List.set_cons_zero, List.set_cons_succ])
  go_cut [] (fun wc => ∃ (D3 : Option Addr) (e3 : Nat) (inner : List Value) (fp : List Nat), Aside0 (Dp w0 w g s (p1 : Int) (.cells #[.int .i64 x.f0, .string x.f1, .int .i64 x.f2, .slice A3 x.f3.length c3, .slice A4 x.f4.length c4] 26) (.cells #[.int .i64 0, .string ⟨#[]⟩, .int .i64 0, .slice none 0 0, .slice none 0 0] 26) w1.heap.size x.f0 x.f1 x.f2 y3 x.f4 (.slice D3 y3.length e3) (.slice J4 x.f4.length q4) inner fp wc))
  case first =>
    by_cases hk : x.f0 = 1
    · have t1 : (x.f0 == 1) = true := beq_iff_eq.mpr hk
      have HX1 := Lib.hid hk
      clear hk
      (first | rw [t1] | skip)
      go_wp2_with fail
      refine (Q.spec_l15Rd_pick.calls kp g s (p : Int) 7 (j : Int) _ w0 _ (HDP.out.dr.later (by repeat (first | exact Below.refl _ _ | refine below_alloc ?_ _))).is (HDP.out.dr.later (by repeat (first | exact Below.refl _ _ | refine below_alloc ?_ _))).b HKP.out).mono ?_
      rintro e w2 ⟨rfl, hi2, hb2, hk2⟩
      have hset := sets_lit (U := w1.alloc (.cells #[.int .i64 x.f0, .string x.f1, .int .i64 x.f2, .slice J3 x.f3.length q3, .slice J4 x.f4.length q4] 26 (0, 0))) (W2 := w2) (B := w1.heap.size + 1) (by simp) (fun b hb1 hb2 => hk2.2 b (by simp only [alloc_size]; omega) (by have := HDP.out.dr.lt; have := HDP.out.h3; omega) (by simp)) j HJ.out
      obtain ⟨As, cs, hcell, hcl, hC, hemp⟩ := hset
      have hdp2 := (HDP.out.later (by repeat (first | exact Below.refl _ _ | refine below_alloc ?_ _))).call hi2 hb2 hk2
      have hfr := HDP.out.fresh (b := w1.heap.size + 1 + 1 + 1 + 1 + 1 + 1 + 1 + 1 + 1) (by simp only [alloc_size]; omega)
      have hR0 : kI.R 3 w2 (w1.heap.size + 1) (fun _ => True) (.slice (some ⟨w1.heap.size + 1 + 1 + 1 + 1 + 1 + 1 + 1 + 1 + 1, 0, none⟩) 0 0) [] :=
        Kd.R_of_own ⟨by simp [encs], .inr ⟨_, 0, #[], rfl, by omega, hemp, Nat.le_refl _, Nat.zero_le _, by simp, by simp [encs]⟩⟩ (fun _ _ => trivial)
      have hl7 : (sets7[j]'HJ.out).length ≤ 3 := by
        rcases (show j = 0 ∨ j = 1 ∨ j = 2 ∨ j = 3 ∨ j = 4 ∨ j = 5 ∨ j = 6 by have := HJ.out; omega) with rfl | rfl | rfl | rfl | rfl | rfl | rfl <;> simp
      have HL7 := Lib.hid hl7
      have HR0 := Aside0.mk hR0
      have HCC := Aside0.mk hC
      have HD2 := Lib.hid hdp2
      have HFR := Lib.hid hfr
      have HEL := Lib.hid (blk_lt hemp)
      clear hi2 hb2 hk2 hcl hC hemp hdp2 hfr hR0 hl7
      go_wp2_with (first | ((with_reducible refine gate_dst (N := 29) rfl ?_); refine Kd.R_append_row (Value.int .i64) (0 : Int) (w0 := w2) (w1.heap.size + 1) rfl (.tmp 21) (.tmp 28) 23 3 (.int .i64 0) 8 rfl Tryd.underlying23 infoI rfl (by decide) (.slice (some ⟨w1.heap.size + 1 + 1 + 1 + 1 + 1 + 1 + 1 + 1 + 1, 0, none⟩) 0 0) [] (sets7[j]'HJ.out) As (sets7[j]'HJ.out).length cs (fun _ => True) rfl rfl (fun _ _ => trivial) HR0.out HCC.out (Below.refl _ _) (by have := HEL.out; omega) (by have := HL7.out; simp; omega) ?_; intro v5 w3 ho5 hb5 hg5 hat5; rw [List.nil_append] at ho5; obtain ⟨D5, e5, e6⟩ := Kd.R_slice ho5; subst e6; have hbox3 := blk_grown HD2.out.k3 hg5 (by simp only [Value.ownBlock, ne_eq, Option.some.injEq]; omega); have z3 := (fm_cells hbox3).2.2.2.1; have f3 := (fm_free hbox3).2.2.2.1; have HO5 := Aside0.mk ho5; have HG5 := Lib.hid (And.intro hg5 hat5); clear hbox3 ho5 hb5 hg5 hat5))
      go_meet
      case rel =>
        have hq := H1.out
        have hy := H3.out
        rw [if_pos HX1.out] at hq hy
        rw [hq, hy]
        refine ⟨D5, e5, inner, fp, ⟨HD2.out.scopes HG5.out.1 (fun b hb => ?_) (own_weaken (Kd.own_of_R HO5.out) (Nat.zero_le _)) (fun b hb => ?_)⟩⟩
        · have e : b = w1.heap.size + 1 + 1 + 1 + 1 + 1 + 1 + 1 + 1 + 1 := by simpa [Value.ownBlock] using hb.symm
          rw [e]; exact HFR.out
        · rcases HG5.out.2 with h | ⟨c, h, hc⟩
          · rw [h] at hb
            have e : b = w1.heap.size + 1 + 1 + 1 + 1 + 1 + 1 + 1 + 1 + 1 := by simpa [Value.ownBlock] using hb.symm
            rw [e]; exact HFR.out
          · rw [h] at hb
            cases hb
            exact HD2.out.fresh hc
    · have t1 : (x.f0 == 1) = false := beq_eq_false_iff_ne.mpr hk
      have HX1 := Lib.hid hk
      clear hk
      (first | rw [t1] | skip)
      go_wp2
      go_meet
      case rel =>
        have hq := H1.out
        have hy := H3.out
        rw [if_neg HX1.out] at hq hy
        rw [hq, hy]
        exact ⟨J3, q3, inner, fp, ⟨HDP.out⟩⟩
  case rest =>
    obtain ⟨D3, e3, inner0, fp0, HCP⟩ := hcut
    clear HDP p0 p1_ p2 p3 p4 inner fp
    go_wp2_with fail
    go_loopg [7] x.f4.length (fun kq v7 w' => ∃ i : Nat, i ≤ x.f4.length ∧ x.f4.length - i ≤ kq ∧ v7 = .int .i64 i ∧ Aside0 (∃ inner fp, Dp w0 w g s (ps i : Int) (.cells #[.int .i64 x.f0, .string x.f1, .int .i64 x.f2, .slice A3 x.f3.length c3, .slice A4 x.f4.length c4] 26) (.cells #[.int .i64 0, .string ⟨#[]⟩, .int .i64 0, .slice none 0 0, .slice none 0 0] 26) w1.heap.size x.f0 x.f1 x.f2 y3 (ys.take i ++ x.f4.drop i) (.slice D3 y3.length e3) (.slice J4 x.f4.length q4) inner fp w'))
    case atStart => exact ⟨0, Nat.zero_le _, by omega, rfl, ⟨⟨inner0, fp0, by rw [HP0.out]; simpa using HCP.out⟩⟩⟩
    case round =>
      obtain ⟨i, hi, hg, rfl, HO⟩ := hrel
      by_cases hlt : i < x.f4.length
      · obtain ⟨inner, fp, hC⟩ := HO.out
        have hyl2 := HYL.out
        have hlen : (ys.take i ++ x.f4.drop i).length = x.f4.length := by simp; omega
        have ho4 := hC.o4
        rw [hlen] at ho4
        obtain ⟨gr, cap, e, hgr0, hgr1⟩ := ho4.form (by omega)
        obtain ⟨rfl, rfl⟩ : J4 = some ⟨gr, 0, none⟩ ∧ q4 = cap := by injection e with e1 _ e2; exact ⟨e1, e2⟩
        clear e
        have htr := hC.tr
        rw [List.drop_eq_getElem_cons hlt] at htr
        obtain ⟨ia, ib0, fa, fb0, rfl, rfl, hta, htb0⟩ := TrL.split _ htr
        obtain ⟨z3, z4, ib, fx, fb, rfl, rfl, htx, htb⟩ := TrL.cons_inv htb0
        have hla := hta.len
        rw [List.length_take, Nat.min_eq_left (by omega)] at hla
        obtain ⟨G3, m3, G4, m4, rfl, rfl, hkin⟩ := htx.In
        have HLEN := Lib.hid hlen
        have HTA := Lib.hid hta
        have HTB := Lib.hid htb
        have HLA := Lib.hid hla
        have HKIN := Lib.hid hkin
        have HC := Lib.hid hC
        have SK := Lib.hid (fun (W : World) (q' : Int) (h : Dp w0 w g s q' (.cells #[.int .i64 x.f0, .string x.f1, .int .i64 x.f2, .slice A3 x.f3.length c3, .slice A4 x.f4.length c4] 26) (.cells #[.int .i64 0, .string ⟨#[]⟩, .int .i64 0, .slice none 0 0, .slice none 0 0] 26) w1.heap.size x.f0 x.f1 x.f2 y3 (ys.take i ++ x.f4.drop i) (.slice D3 y3.length e3) (.slice (some ⟨gr, 0, none⟩) x.f4.length q4) (ia ++ ([.int .i64 x.f4[i].f0, .string x.f4[i].f1, .int .i64 x.f4[i].f2, .slice G3 x.f4[i].f3.length m3, .slice G4 x.f4[i].f4.length m4] ++ ib)) (fa ++ (fx ++ fb)) W) => (⟨(fm_cells h.k3).2.2.2.2, (row_put (by have := h.o4; rw [hlen] at this; exact this) hla).1⟩ : W.cell? ⟨w1.heap.size, 4, none⟩ = some (.slice (some ⟨gr, 0, none⟩) x.f4.length q4) ∧ W.cell? ⟨gr, i * 5, none⟩ = some (.int .i64 x.f4[i].f0) ∧ W.cell? ⟨gr, i * 5 + 1, none⟩ = some (.string x.f4[i].f1) ∧ W.cell? ⟨gr, i * 5 + 2, none⟩ = some (.int .i64 x.f4[i].f2) ∧ W.cell? ⟨gr, i * 5 + 3, none⟩ = some (.slice G3 x.f4[i].f3.length m3) ∧ W.cell? ⟨gr, i * 5 + 4, none⟩ = some (.slice G4 x.f4[i].f4.length m4)))
        have hp4 := (SK.out _ _ hC).1
        have s1 : (0 : Int) ≤ (i : Int) := by omega
        have s2 : (i : Int) < (x.f4.length : Int) := by omega
        clear hC hlen ho4 htr hta htb htb0 htx hla hkin hyl2 HO hgr0 hgr1
        go_wp2_with fail
        have HD := Lib.hid (HC.out.later (below_drew (Below.refl _ _)))
        have HKD := Lib.hid (HKIN.out.below (below_drew (Below.refl _ _)))
        have HDK := Lib.hid (fun b (hb : b < wr.heap.size) => (below_drew (Below.refl wr.heap.size wr)).block b hb)
        refine start_ (n := 12) (S := fun W => W.cell? ⟨w1.heap.size, 4, none⟩ = some (.slice (some ⟨gr, 0, none⟩) x.f4.length q4) ∧ W.cell? ⟨gr, i * 5, none⟩ = some (.int .i64 x.f4[i].f0) ∧ W.cell? ⟨gr, i * 5 + 1, none⟩ = some (.string x.f4[i].f1) ∧ W.cell? ⟨gr, i * 5 + 2, none⟩ = some (.int .i64 x.f4[i].f2) ∧ W.cell? ⟨gr, i * 5 + 3, none⟩ = some (.slice G3 x.f4[i].f3.length m3) ∧ W.cell? ⟨gr, i * 5 + 4, none⟩ = some (.slice G4 x.f4[i].f4.length m4)) (ds := [11]) #[false, false, false, false, false, false, false, false, false, false, false, false] (by kernel_rfl) rfl rfl (SK.out _ _ HD.out) (fun hHeld => ?_)
        clear hp4
        generalize wr.drew = wd at HD HKD HDK hHeld ⊢
        refine pure_ (i := 0) (N := some 38) (v := ?_) (a' := ?_) #[true, false, false, false, false, false, false, false, false, false, false, false] rfl rfl (by kernel_rfl) (fun _ _ _ h => h) (Or.inl ⟨by rfl, ?_⟩) ?_ ?_
        rotate_left
        · intro w'
          go_simp
          with_reducible rfl
        rotate_left
        · simp only [Act.put, List.setIfInBounds_toArray, List.set_cons_zero, List.set_cons_succ, i64_w, i32_w]
          rfl
        refine pure_ (i := 2) (N := some 40) (v := ?_) (a' := ?_) #[true, false, true, false, false, false, false, false, false, false, false, false] rfl rfl (by kernel_rfl) (fun _ _ _ h => h) (Or.inl ⟨by rfl, ?_⟩) ?_ ?_
        rotate_left
        · intro w'
          go_simp
          with_reducible rfl
        rotate_left
        · simp only [Act.put, List.setIfInBounds_toArray, List.set_cons_zero, List.set_cons_succ, i64_w, i32_w]
          rfl
        refine pure_ (i := 3) (N := some 41) (v := ?_) (a' := ?_) #[true, false, true, true, false, false, false, false, false, false, false, false] rfl rfl (by kernel_rfl) (fun _ _ _ h => h) (Or.inl ⟨by rfl, ?_⟩) ?_ ?_
        rotate_left
        · intro w'
          go_simp
          with_reducible rfl
        rotate_left
        · simp only [Act.put, List.setIfInBounds_toArray, List.set_cons_zero, List.set_cons_succ, i64_w, i32_w]
          rfl
        refine pure_ (i := 4) (N := some 42) (v := ?_) (a' := ?_) #[true, false, true, true, true, false, false, false, false, false, false, false] rfl rfl (by kernel_rfl) (fun _ _ _ h => h) (Or.inl ⟨by rfl, ?_⟩) ?_ ?_
        rotate_left
        · intro w'
          go_simp
          with_reducible rfl
        rotate_left
        · simp only [Act.put, List.setIfInBounds_toArray, List.set_cons_zero, List.set_cons_succ, i64_w, i32_w]
          rfl
        refine pure_ (i := 6) (N := some 44) (v := ?_) (a' := ?_) #[true, false, true, true, true, false, true, false, false, false, false, false] rfl rfl (by kernel_rfl) (fun _ _ _ h => h) (Or.inl ⟨by rfl, ?_⟩) ?_ ?_
        rotate_left
        · intro w'
          go_simp
          with_reducible rfl
        rotate_left
        · simp only [Act.put, List.setIfInBounds_toArray, List.set_cons_zero, List.set_cons_succ, i64_w, i32_w]
          rfl
        refine take_ (i := 1) (N := some 39) (v := ?_) (a' := ?_) #[true, true, true, true, true, false, true, false, false, false, false, false] rfl rfl (by kernel_rfl) (fun _ _ _ h => h) (Or.inl ⟨by rfl, ?_⟩) hHeld ?_ ?_
        rotate_left
        · rintro w' ⟨s0, e0, e1, e2, e3_, e4⟩
          go_simp
          with_reducible rfl
        rotate_left
        · simp only [Act.put, List.setIfInBounds_toArray, List.set_cons_zero, List.set_cons_succ, i64_w, i32_w]
          rfl
        refine take_ (i := 5) (N := some 43) (v := ?_) (a' := ?_) #[true, true, true, true, true, true, true, false, false, false, false, false] rfl rfl (by kernel_rfl) (fun _ _ _ h => h) (Or.inl ⟨by rfl, ?_⟩) hHeld ?_ ?_
        rotate_left
        · rintro w' ⟨s0, e0, e1, e2, e3_, e4⟩
          go_simp
          with_reducible rfl
        rotate_left
        · simp only [Act.put, List.setIfInBounds_toArray, List.set_cons_zero, List.set_cons_succ, i64_w, i32_w]
          rfl
        refine pure_ (i := 7) (N := some 45) (v := ?_) (a' := ?_) #[true, true, true, true, true, true, true, true, false, false, false, false] rfl rfl (by kernel_rfl) (fun _ _ _ h => h) (Or.inl ⟨by rfl, ?_⟩) ?_ ?_
        rotate_left
        · intro w'
          go_simp
          with_reducible rfl
        rotate_left
        · simp only [Act.put, List.setIfInBounds_toArray, List.set_cons_zero, List.set_cons_succ, i64_w, i32_w]
          rfl
        refine take_ (i := 8) (N := some 46) (v := ?_) (a' := ?_) #[true, true, true, true, true, true, true, true, true, false, false, false] rfl rfl (by kernel_rfl) (fun _ _ _ h => h) (Or.inl ⟨by rfl, ?_⟩) hHeld ?_ ?_
        rotate_left
        · rintro w' ⟨s0, e0, e1, e2, e3_, e4⟩
          go_simp
          with_reducible rfl
        rotate_left
        · simp only [Act.put, List.setIfInBounds_toArray, List.set_cons_zero, List.set_cons_succ, i64_w, i32_w]
          rfl
        refine one_ (i := 9) (N := some 47) #[true, true, true, true, true, true, true, true, true, true, false, false] rfl rfl (by kernel_rfl) (by decide) (fun K hK => ?_)
        refine goes_ Tryd.func29 (by kernel_rfl) rfl #[.pointer (some ⟨g, 0, none⟩), .agg #[.int .i64 x.f4[i].f0, .string x.f4[i].f1, .int .i64 x.f4[i].f2, .slice G3 x.f4[i].f3.length m3, .slice G4 x.f4[i].f4.length m4]] (by rfl) rfl rfl (by (try simp only [List.map_toArray, List.map_cons, List.map_nil]); first | done | rfl) ?_
        refine (HYS.out i hlt (by have := HYL.out; omega) g G3 m3 G4 m4 w0 wd HD.out.dr.is HD.out.dr.b HKD.out).mono ?_
        rintro e w7 ⟨u3, u4, rfl, hn, hi7, hb7, hk7⟩
        refine ⟨_, rfl, ?_⟩
        have hy9 : i < ys.length := by have := HYL.out; omega
        obtain ⟨U3, n3_, U4, n4_, rfl, rfl⟩ : ∃ U3 n3 U4 n4, u3 = .slice U3 (ys[i]'hy9).f3.length n3 ∧ u4 = .slice U4 (ys[i]'hy9).f4.length n4 := by
          obtain ⟨fk, hk2, _⟩ := hn
          obtain ⟨J3, q3, J4, q4, e3, e4, _⟩ := hk2.In
          exact ⟨J3, q3, J4, q4, e3, e4⟩
        have H7 := Lib.hid (HD.out.call hi7 hb7 hk7)
        have HN := Lib.hid hn
        have HK7 := Lib.hid hk7
        clear hn hi7 hb7 hk7
        refine hK.out _ _ (SK.out _ _ H7.out) (fun hHeld => ?_)
        clear hK K
        refine norm_ (a' := ?_) ?_ ?_
        rotate_left
        · show Act.put _ (some 47) _ = _
          simp only [Act.put, List.setIfInBounds_toArray, List.set_cons_zero, List.set_cons_succ, i64_w, i32_w]
          rfl
        refine pure_ (i := 10) (N := some 48) (v := ?_) (a' := ?_) #[true, true, true, true, true, true, true, true, true, true, true, false] rfl rfl (by kernel_rfl) (fun _ _ _ h => h) (Or.inl ⟨by rfl, ?_⟩) ?_ ?_
        rotate_left
        · intro w'
          go_simp
          with_reducible rfl
        rotate_left
        · simp only [Act.put, List.setIfInBounds_toArray, List.set_cons_zero, List.set_cons_succ, i64_w, i32_w]
          rfl
        refine last_ (i := 11) (N := none) #[true, true, true, true, true, true, true, true, true, true, true, true] rfl rfl (by kernel_rfl) (by decide) (fun K hK => ?_)
        obtain ⟨_, z0, z1, z2, z3, z4⟩ := SK.out _ _ H7.out
        have hfz := (row_put (by have := H7.out.o4; rw [HLEN.out] at this; exact this) HLA.out).2.1
        have f0 := hfz (i * 5)
        have f1 := hfz (i * 5 + 1)
        have f2 := hfz (i * 5 + 2)
        have f3 := hfz (i * 5 + 3)
        have f4 := hfz (i * 5 + 4)
        clear hfz
        have HX := Lib.hid (show ys.take i ++ ys[i] :: x.f4.drop (i + 1) = ys.take (i + 1) ++ x.f4.drop (i + 1) from by rw [List.take_succ_eq_append_getElem hy9, List.append_assoc]; rfl)
        have hla2 : (ys.take i).length = i := by have := HYL.out; simp; omega
        have hltd := HD.out.lt
        obtain ⟨fp', hC7⟩ := H7.out.kid (B := wd.heap.size) HLEN.out.symm (by rw [List.drop_eq_getElem_cons hlt]) rfl rfl (HTA.out.move _ (fun b hb => by have hl := HC.out.lt b (by simp [hb]); have hge := HC.out.ge b (by simp [hb]); have hg0 := HC.out.dr.lt; rw [HK7.out.2 b (by have := HD.out.lt b (by simp [hb]); omega) (by omega) (by simp)]; exact HDK.out b hl)) (HTB.out.move _ (fun b hb => by have hl := HC.out.lt b (by simp [hb]); have hge := HC.out.ge b (by simp [hb]); have hg0 := HC.out.dr.lt; rw [HK7.out.2 b (by have := HD.out.lt b (by simp [hb]); omega) (by omega) (by simp)]; exact HDK.out b hl)) hltd HD.out.lts.2 HD.out.lts.1 HN.out
        rw [hla2] at hC7
        rw [HX.out] at hC7
        have HC7 := Lib.hid hC7
        clear hC7 hla2 hltd
        refine skip_ (w1 := ?_) (by rfl) rfl ?_ ?_
        rotate_left
        · go_simp
          rfl
        refine hK.out _ _ ?_
        clear hK K z0 z1 z2 z3 z4 f0 f1 f2 f3 f4
        refine done_ (by kernel_rfl) ?_
        try go_wp2
        go_roundg (x.f4.length - (i + 1))
        case measure => omega
        case rel => exact ⟨i + 1, by omega, Nat.le_refl _, by go_num, ⟨⟨_, _, HC7.out⟩⟩⟩
      · obtain rfl : i = x.f4.length := by omega
        obtain ⟨inner, fp, hC⟩ := HO.out
        rw [List.drop_length, List.append_nil, List.take_of_length_le (by have := HYL.out; omega)] at hC
        have hyl2 := HYL.out
        obtain ⟨p0, p1_, p2, p3, p4⟩ := fm_cells hC.k3
        obtain ⟨z0, z1, z2, z3, z4⟩ := fm_cells hC.k2
        obtain ⟨f0, f1, f2, f3, f4⟩ := fm_free hC.k2
        have hn1 : w1.heap.size ≠ w.heap.size + 1 := by have := hC.h3; omega
        have hn2 : w.heap.size + 1 ≠ w1.heap.size := fun e => hn1 e.symm
        obtain ⟨st1, st2, st3⟩ := st5 hC.k2 (.int .i64 x.f0) (.string x.f1) (.int .i64 x.f2) (.slice D3 y3.length e3) (.slice J4 x.f4.length q4)
        have HN := Lib.hid (hC.newF st2)
        have hdr := hC.dr.put5 (b := w.heap.size + 1) (by omega) (.int .i64 x.f0) (.string x.f1) (.int .i64 x.f2) (.slice D3 y3.length e3) (.slice J4 x.f4.length q4)
        rw [HPN.out] at hdr
        have HB := Lib.hid hdr
        clear hC HO st1 st2 st3 hdr hyl2
        go_wp2_with fail
        refine bodyPost_ret (v := .agg #[.int .i64 x.f0, .string x.f1, .int .i64 x.f2, .slice D3 y3.length e3, .slice J4 x.f4.length q4]) (by simp [results, Tryd.results29, go_sem, z0, z1, z2, z3, z4]) rfl ?_
        exact ⟨_, _, rfl, HN.out, HB.out.is, HB.out.b, HB.out.kp⟩
end Go.Proofs.YteeepenncddnjaaDoor
end
section
namespace Go.Proofs.YteeepenncddnjaaDoor
open Go.RowKit Go.Proofs.YteeepenncddnjaaDoorW.PrintWords
set_option linter.unusedVariables false
set_option linter.unusedSimpArgs false
/-- What l1Dress keeps of a form, and what it gives to a name. -/
structure Drs (x y : Fm) : Prop where
  f0 : y.f0 = x.f0
  f1 : y.f1 = x.f1
  f2 : y.f2 = x.f2
  f3 : x.f0 = 1 → y.f3 ∈ sets7
  f4 : x.f4 = [] → y.f4 = []
def DressEx (s : List Int) (x : Fm) : Prop := ∀ p : Nat, p + x.size ≤ 1000000 → ∃ (y : Fm) (q : Nat), q ≤ p + x.size ∧ y.tot ≤ x.tot + 3 * x.size ∧ y.size = x.size ∧ Drs x y ∧ DressOk s x p y q
theorem dress_list {s : List Int} : ∀ (ks : List Fm), (∀ k, k ∈ ks → DressEx s k) → ∀ p : Nat, p + sizes ks ≤ 1000000 → ∃ (ys : List Fm) (ps : Nat → Nat), ys.length = ks.length ∧ ps 0 = p ∧ ps ks.length ≤ p + sizes ks ∧ totL ys ≤ totL ks + 3 * sizes ks ∧ sizes ys = sizes ks ∧ ∀ (i : Nat) (hi : i < ks.length) (hi2 : i < ys.length), DressOk s ks[i] (ps i) ys[i] (ps (i + 1))
  | [], _, p, _ => ⟨[], fun _ => p, rfl, rfl, by simp [sizes], by simp [totL], rfl, fun i hi => absurd hi (by simp)⟩
  | k :: ks, ih, p, hp => by
    simp only [sizes] at hp
    obtain ⟨y, q, h1, h2, h3, _, h5⟩ := ih k List.mem_cons_self p (by omega)
    obtain ⟨ys, ps, a1, a2, a3, a4, a5, a6⟩ := dress_list ks (fun k' hk => ih k' (List.mem_cons_of_mem _ hk)) q (by omega)
    refine ⟨y :: ys, fun i => match i with | 0 => p | i + 1 => ps i, by simp [a1], rfl, by simp only [List.length_cons, sizes]; omega, by simp only [totL, sizes]; omega, by simp only [sizes]; omega, fun i hi hi2 => ?_⟩
    cases i with
    | zero => simpa [a2] using h5
    | succ i => simpa using a6 i (by simpa using hi) (by simpa using hi2)
theorem sets7_mem {j : Nat} (hj : j < 7) : sets7[j] ∈ sets7 := List.getElem_mem hj
theorem sets7_len : ∀ z, z ∈ sets7 → z.length ≤ 3 := by
  intro z hz
  simp only [sets7, List.mem_cons, List.not_mem_nil, or_false] at hz
  rcases hz with h | h | h | h | h | h | h <;> simp [h]
theorem dress_ex {s : List Int} (hs : Bts s) : ∀ x : Fm, x.tot ≤ 100000 → DressEx s x := by
  intro x
  induction x using Fm.ind with
  | h x ih =>
    intro ht p hp
    have hsz := x.size_eq
    have htt := x.tot_eq
    obtain ⟨v, hv, hpick⟩ := ev_pick hs p (by omega) 7 (by omega)
    obtain ⟨j, rfl⟩ := Int.eq_ofNat_of_zero_le (hv (by omega)).1
    have hj : j < 7 := by have := (hv (by omega)).2; omega
    have hp1 : (if x.f0 = 1 then p + 1 else p) ≤ p + 1 := by split <;> omega
    obtain ⟨ys, ps, a1, a2, a3, a4, a5, a6⟩ := dress_list x.f4 (fun k hk => ih k hk (by have := totL_mem hk; omega)) (if x.f0 = 1 then p + 1 else p) (by omega)
    have h7 := sets7_len _ (sets7_mem hj)
    have hy3 : (if x.f0 = 1 then sets7[j] else x.f3).length ≤ x.f3.length + 3 := by split <;> omega
    refine ⟨⟨x.f0, x.f1, x.f2, if x.f0 = 1 then sets7[j] else x.f3, ys⟩, ps x.f4.length, by omega, ?_, ?_, ⟨rfl, rfl, rfl, fun h => ?_, fun h => ?_⟩, ?_⟩
    · rw [Fm.tot_eq]; dsimp only; omega
    · rw [Fm.size_eq]; dsimp only; omega
    · dsimp only; rw [if_pos h]; exact sets7_mem hj
    · dsimp only; rw [h] at a1; exact List.eq_nil_of_length_eq_zero (by simpa using a1)
    · exact dress_walk x p _ _ j hj _ ys ps ht hpick rfl rfl a1 a2 rfl a6
end Go.Proofs.YteeepenncddnjaaDoor
end
section
namespace Go.Proofs.YteeepenncddnjaaDoor
open Go.RowKit Go.Proofs.YteeepenncddnjaaDoorW.PrintWords Go.Proofs.YteeepenncddnjaaDoorW.PrintLast Go.Proofs.YteeepenncddnjaaDoorW.PrintMore
set_option linter.unusedVariables false
set_option linter.unusedSimpArgs false
theorem reads_strs {W : World} {b : Nat} {cs : Array Value} {l : List ByteArray} (hb : W.heap[b]? = some (.cells cs 9 (0, 0))) (hl : l.length ≤ 1000) (hcs : cs.toList = l.map Value.string) : Kd.string.C W (some ⟨b, 0, none⟩) l.length l := by
  refine Kd.C_of_reads (d := ByteArray.empty) (h1 := fun _ => rfl) ⟨rfl, by omega, fun hn => ⟨⟨b, 0, none⟩, rfl, fun i hi => ?_⟩⟩
  rw [add_plain, blk_cell hb i]
  have h9 := congrArg (fun z => z[i]?) hcs
  simp only [Array.getElem?_toList, List.getElem?_map] at h9
  rw [h9, List.getElem?_eq_getElem hi, List.getD_eq_getElem?_getD, List.getElem?_eq_getElem hi]
  rfl
abbrev badNms : List ByteArray := [(⟨#[]⟩ : ByteArray), (⟨#[65]⟩ : ByteArray), (⟨#[116, 111, 111, 108, 111, 110, 103, 97, 110, 97, 109, 101, 49]⟩ : ByteArray), (⟨#[122]⟩ : ByteArray), (⟨#[120, 32, 121]⟩ : ByteArray)]
def MutOk (s : List Int) (x : Fm) (p : Nat) (y : Fm) (q : Nat) : Prop := ∀ (g : Nat) (A3 : Option Addr) (c3 : Nat) (A4 : Option Addr) (c4 : Nat) (w0 w : World), IsRd w0 w g s (p : Int) → Below w0.heap.size w0 w → FmIn w x A3 c3 A4 c4 →
  Calls Tryd.prog 32 #[.pointer (some ⟨g, 0, none⟩), .agg #[.int .i64 x.f0, .string x.f1, .int .i64 x.f2, .slice A3 x.f3.length c3, .slice A4 x.f4.length c4]] w (DrPost w0 g s (q : Int) y w)
set_option maxHeartbeats 4000000 in
set_option maxRecDepth 100000 in
theorem mut_rec {s : List Int} (x : Fm) (p q : Nat) (v : Int) (i : Nat) (y : Fm) (ht : x.tot ≤ 200000) (hlt : i < x.f4.length) (hv : 0 < v) (h2 : Ev (fun k => Q.spec_l15Rd_pick.f k s (p : Int) 2) (v, ((p + 1 : Nat) : Int))) (hk : Ev (fun k => Q.spec_l15Rd_pick.f k s ((p + 1 : Nat) : Int) (x.f4.length : Int)) ((i : Int), ((p + 2 : Nat) : Int))) (hm : MutOk s x.f4[i] (p + 2) y q) : MutOk s x p ⟨x.f0, x.f1, x.f2, x.f3, x.f4.take i ++ y :: x.f4.drop (i + 1)⟩ q := by
  obtain ⟨ka, hka⟩ := h2.rounds
  obtain ⟨kb, hkb⟩ := hk.rounds
  have HKA := Lib.hid hka
  have HKB := Lib.hid hkb
  have HM := Lib.hid hm
  have HV := Lib.hid hv
  clear h2 hk hka hkb hm hv
  intro g A3 c3 A4 c4 w0 w hi hb hin
  have hmax := hin.g4.2.1
  have HI := Lib.hid hin
  have HD0 := Lib.hid (Dr.new hi hb)
  have HT := Lib.hid ht
  have hlen := len_totL x.f4
  have hxt := x.tot_eq
  have HLN := Lib.hid (show x.f4.length ≤ 200000 by omega)
  have HL3 := Lib.hid (show x.f3.length ≤ 200000 by omega)
  clear hin hi hb ht hlen hxt
  go_enter Tryd.func32, Tryd.ntmps32
  go_wp2_with fail
  refine (l1Copy_any x A3 c3 A4 c4 _ (HI.out.below (below_step (below_new _ _) (below_new _ _))) (by have := HT.out; omega)).mono ?_
  rintro e w1 ⟨u3, u4, rfl, hn, hb1⟩
  obtain ⟨J3, q3, J4, q4, rfl, rfl⟩ : ∃ J3 q3 J4 q4, u3 = .slice J3 x.f3.length q3 ∧ u4 = .slice J4 x.f4.length q4 := by
    obtain ⟨fk, hk2, _⟩ := hn
    obtain ⟨J3, q3, J4, q4, e3, e4, _⟩ := hk2.In
    exact ⟨J3, q3, J4, q4, e3, e4⟩
  obtain ⟨k1, k2, b1⟩ := two_new hb1
  rw [show ((w.alloc (.cells #[.int .i64 x.f0, .string x.f1, .int .i64 x.f2, .slice A3 x.f3.length c3, .slice A4 x.f4.length c4] 26)).alloc (.cells #[.int .i64 0, .string ⟨#[]⟩, .int .i64 0, .slice none 0 0, .slice none 0 0] 26)).heap.size = w.heap.size + 2 from by simp] at hn
  obtain ⟨inner, fp, hdp⟩ := Dp.start (HD0.out.later b1) k1 k2 hn
  have HDP := Lib.hid hdp
  clear hb1 hn k1 k2 b1 hdp
  have t1 : decide ((x.f4.length : Int) > 0) = true := decide_eq_true (by omega)
  have t1' : decide (0 < x.f4.length) = true := decide_eq_true (by omega)
  have t2 : decide (v > 0) = true := decide_eq_true HV.out
  go_wp2_with fail
  refine (Q.spec_l15Rd_pick.calls ka g s _ 2 v _ w0 _ HDP.out.dr.is HDP.out.dr.b HKA.out).mono ?_
  rintro e w2 ⟨rfl, hi, hb, hk⟩
  have hw2 := Lib.hid (HDP.out.call hi hb hk)
  clear hi hb hk
  have z4 := (fm_cells hw2.out.k3).2.2.2.2
  go_wp2_with fail
  refine (Q.spec_l15Rd_pick.calls kb g s _ (x.f4.length : Int) (i : Int) _ w0 _ hw2.out.dr.is hw2.out.dr.b HKB.out).mono ?_
  rintro e w3 ⟨rfl, hi, hb, hk⟩
  have hw3 := Lib.hid (hw2.out.call hi hb hk)
  clear hi hb hk
  obtain ⟨gr, cap, e, hgr0, hgr1⟩ := hw3.out.o4.form (by omega)
  obtain ⟨rfl, rfl⟩ : J4 = some ⟨gr, 0, none⟩ ∧ q4 = cap := by injection e with e1 _ e2; exact ⟨e1, e2⟩
  clear e
  have hdr : x.f4 = x.f4.take i ++ x.f4[i] :: x.f4.drop (i + 1) := by rw [← List.drop_eq_getElem_cons hlt, List.take_append_drop]
  have htr := hw3.out.tr
  obtain ⟨ia, ib0, fa, fb0, hin1, hfp1, hta, htb0⟩ := TrL.split (x.f4.take i) (b := x.f4[i] :: x.f4.drop (i + 1)) (by rw [← hdr]; exact htr)
  obtain ⟨z3, z4', ib, fx, fb, rfl, rfl, htx, htb⟩ := TrL.cons_inv htb0
  subst hin1 hfp1
  have hla := hta.len
  rw [List.length_take, Nat.min_eq_left (by omega)] at hla
  obtain ⟨G3, m3, G4, m4, rfl, rfl, hkin⟩ := htx.In
  have HDRX := Lib.hid hdr
  have HTA := Lib.hid hta
  have HTB := Lib.hid htb
  have HLA := Lib.hid hla
  have HKIN := Lib.hid hkin
  have SK := Lib.hid (fun (W : World) (q' : Int) (h : Dp w0 w g s q' (.cells #[.int .i64 x.f0, .string x.f1, .int .i64 x.f2, .slice A3 x.f3.length c3, .slice A4 x.f4.length c4] 26) (.cells #[.int .i64 0, .string ⟨#[]⟩, .int .i64 0, .slice none 0 0, .slice none 0 0] 26) w1.heap.size x.f0 x.f1 x.f2 x.f3 x.f4 (.slice J3 x.f3.length q3) (.slice (some ⟨gr, 0, none⟩) x.f4.length q4) (ia ++ ([.int .i64 x.f4[i].f0, .string x.f4[i].f1, .int .i64 x.f4[i].f2, .slice G3 x.f4[i].f3.length m3, .slice G4 x.f4[i].f4.length m4] ++ ib)) (fa ++ (fx ++ fb)) W) => (⟨(fm_cells h.k3).2.2.2.2, (row_put h.o4 hla).1⟩ : (fun W : World => W.cell? ⟨w1.heap.size, 4, none⟩ = some (.slice (some ⟨gr, 0, none⟩) x.f4.length q4) ∧ W.cell? ⟨gr, i * 5, none⟩ = some (.int .i64 x.f4[i].f0) ∧ W.cell? ⟨gr, i * 5 + 1, none⟩ = some (.string x.f4[i].f1) ∧ W.cell? ⟨gr, i * 5 + 2, none⟩ = some (.int .i64 x.f4[i].f2) ∧ W.cell? ⟨gr, i * 5 + 3, none⟩ = some (.slice G3 x.f4[i].f3.length m3) ∧ W.cell? ⟨gr, i * 5 + 4, none⟩ = some (.slice G4 x.f4[i].f4.length m4)) W))
  have hp4 := (SK.out _ _ hw3.out).1
  have s1 : (0 : Int) ≤ (i : Int) := by omega
  have s2 : (i : Int) < (x.f4.length : Int) := by omega
  clear hdr htr hta htb htb0 htx hla hkin hgr0 hgr1 z4 HDP hw2
  go_wp2_with fail
  have HD := Lib.hid (hw3.out.later (below_drew (Below.refl _ _)))
  have HKD := Lib.hid (HKIN.out.below (below_drew (Below.refl _ _)))
  have HDK := Lib.hid (fun b (hb : b < w3.heap.size) => (below_drew (Below.refl w3.heap.size w3)).block b hb)
  refine start_ (n := 12) (S := (fun W : World => W.cell? ⟨w1.heap.size, 4, none⟩ = some (.slice (some ⟨gr, 0, none⟩) x.f4.length q4) ∧ W.cell? ⟨gr, i * 5, none⟩ = some (.int .i64 x.f4[i].f0) ∧ W.cell? ⟨gr, i * 5 + 1, none⟩ = some (.string x.f4[i].f1) ∧ W.cell? ⟨gr, i * 5 + 2, none⟩ = some (.int .i64 x.f4[i].f2) ∧ W.cell? ⟨gr, i * 5 + 3, none⟩ = some (.slice G3 x.f4[i].f3.length m3) ∧ W.cell? ⟨gr, i * 5 + 4, none⟩ = some (.slice G4 x.f4[i].f4.length m4))) (ds := [11]) #[false, false, false, false, false, false, false, false, false, false, false, false] (by kernel_rfl) rfl rfl (SK.out _ _ HD.out) (fun hHeld => ?_)
  clear hp4
  generalize w3.drew = wd at HD HKD HDK hHeld ⊢
  refine pure_ (i := 0) (N := some 23) (v := ?_) (a' := ?_) #[true, false, false, false, false, false, false, false, false, false, false, false] rfl rfl (by kernel_rfl) (fun _ _ _ h => h) (Or.inl ⟨by rfl, ?_⟩) ?_ ?_
  rotate_left
  · intro w'
    go_simp
    with_reducible rfl
  rotate_left
  · simp only [Act.put, List.setIfInBounds_toArray, List.set_cons_zero, List.set_cons_succ, i64_w, i32_w]
    rfl
  refine pure_ (i := 2) (N := some 25) (v := ?_) (a' := ?_) #[true, false, true, false, false, false, false, false, false, false, false, false] rfl rfl (by kernel_rfl) (fun _ _ _ h => h) (Or.inl ⟨by rfl, ?_⟩) ?_ ?_
  rotate_left
  · intro w'
    go_simp
    with_reducible rfl
  rotate_left
  · simp only [Act.put, List.setIfInBounds_toArray, List.set_cons_zero, List.set_cons_succ, i64_w, i32_w]
    rfl
  refine pure_ (i := 3) (N := some 26) (v := ?_) (a' := ?_) #[true, false, true, true, false, false, false, false, false, false, false, false] rfl rfl (by kernel_rfl) (fun _ _ _ h => h) (Or.inl ⟨by rfl, ?_⟩) ?_ ?_
  rotate_left
  · intro w'
    go_simp
    with_reducible rfl
  rotate_left
  · simp only [Act.put, List.setIfInBounds_toArray, List.set_cons_zero, List.set_cons_succ, i64_w, i32_w]
    rfl
  refine pure_ (i := 4) (N := some 27) (v := ?_) (a' := ?_) #[true, false, true, true, true, false, false, false, false, false, false, false] rfl rfl (by kernel_rfl) (fun _ _ _ h => h) (Or.inl ⟨by rfl, ?_⟩) ?_ ?_
  rotate_left
  · intro w'
    go_simp
    with_reducible rfl
  rotate_left
  · simp only [Act.put, List.setIfInBounds_toArray, List.set_cons_zero, List.set_cons_succ, i64_w, i32_w]
    rfl
  refine pure_ (i := 6) (N := some 29) (v := ?_) (a' := ?_) #[true, false, true, true, true, false, true, false, false, false, false, false] rfl rfl (by kernel_rfl) (fun _ _ _ h => h) (Or.inl ⟨by rfl, ?_⟩) ?_ ?_
  rotate_left
  · intro w'
    go_simp
    with_reducible rfl
  rotate_left
  · simp only [Act.put, List.setIfInBounds_toArray, List.set_cons_zero, List.set_cons_succ, i64_w, i32_w]
    rfl
  refine take_ (i := 1) (N := some 24) (v := ?_) (a' := ?_) #[true, true, true, true, true, false, true, false, false, false, false, false] rfl rfl (by kernel_rfl) (fun _ _ _ h => h) (Or.inl ⟨by rfl, ?_⟩) hHeld ?_ ?_
  rotate_left
  · rintro w' ⟨s0, e0, e1, e2, e3_, e4⟩
    go_simp
    with_reducible rfl
  rotate_left
  · simp only [Act.put, List.setIfInBounds_toArray, List.set_cons_zero, List.set_cons_succ, i64_w, i32_w]
    rfl
  refine take_ (i := 5) (N := some 28) (v := ?_) (a' := ?_) #[true, true, true, true, true, true, true, false, false, false, false, false] rfl rfl (by kernel_rfl) (fun _ _ _ h => h) (Or.inl ⟨by rfl, ?_⟩) hHeld ?_ ?_
  rotate_left
  · rintro w' ⟨s0, e0, e1, e2, e3_, e4⟩
    go_simp
    with_reducible rfl
  rotate_left
  · simp only [Act.put, List.setIfInBounds_toArray, List.set_cons_zero, List.set_cons_succ, i64_w, i32_w]
    rfl
  refine pure_ (i := 7) (N := some 30) (v := ?_) (a' := ?_) #[true, true, true, true, true, true, true, true, false, false, false, false] rfl rfl (by kernel_rfl) (fun _ _ _ h => h) (Or.inl ⟨by rfl, ?_⟩) ?_ ?_
  rotate_left
  · intro w'
    go_simp
    with_reducible rfl
  rotate_left
  · simp only [Act.put, List.setIfInBounds_toArray, List.set_cons_zero, List.set_cons_succ, i64_w, i32_w]
    rfl
  refine take_ (i := 8) (N := some 31) (v := ?_) (a' := ?_) #[true, true, true, true, true, true, true, true, true, false, false, false] rfl rfl (by kernel_rfl) (fun _ _ _ h => h) (Or.inl ⟨by rfl, ?_⟩) hHeld ?_ ?_
  rotate_left
  · rintro w' ⟨s0, e0, e1, e2, e3_, e4⟩
    go_simp
    with_reducible rfl
  rotate_left
  · simp only [Act.put, List.setIfInBounds_toArray, List.set_cons_zero, List.set_cons_succ, i64_w, i32_w]
    rfl
  refine one_ (i := 9) (N := some 32) #[true, true, true, true, true, true, true, true, true, true, false, false] rfl rfl (by kernel_rfl) (by decide) (fun K hK => ?_)
  refine goes_ Tryd.func32 (by kernel_rfl) rfl #[.pointer (some ⟨g, 0, none⟩), .agg #[.int .i64 x.f4[i].f0, .string x.f4[i].f1, .int .i64 x.f4[i].f2, .slice G3 x.f4[i].f3.length m3, .slice G4 x.f4[i].f4.length m4]] (by rfl) rfl rfl (by (try simp only [List.map_toArray, List.map_cons, List.map_nil]); first | done | rfl) ?_
  refine (HM.out g G3 m3 G4 m4 w0 wd HD.out.dr.is HD.out.dr.b HKD.out).mono ?_
  rintro e w7 ⟨u3, u4, rfl, hn, hi7, hb7, hk7⟩
  refine ⟨_, rfl, ?_⟩
  obtain ⟨U3, n3_, U4, n4_, rfl, rfl⟩ : ∃ U3 n3 U4 n4, u3 = .slice U3 y.f3.length n3 ∧ u4 = .slice U4 y.f4.length n4 := by
    obtain ⟨fk, hk2, _⟩ := hn
    obtain ⟨J3, q3, J4, q4, e3, e4, _⟩ := hk2.In
    exact ⟨J3, q3, J4, q4, e3, e4⟩
  have H7 := Lib.hid (HD.out.call hi7 hb7 hk7)
  have HN := Lib.hid hn
  have HK7 := Lib.hid hk7
  clear hn hi7 hb7 hk7
  refine hK.out _ _ (SK.out _ _ H7.out) (fun hHeld => ?_)
  clear hK K
  refine norm_ (a' := ?_) ?_ ?_
  rotate_left
  · show Act.put _ (some 32) _ = _
    simp only [Act.put, List.setIfInBounds_toArray, List.set_cons_zero, List.set_cons_succ, i64_w, i32_w]
    rfl
  refine pure_ (i := 10) (N := some 33) (v := ?_) (a' := ?_) #[true, true, true, true, true, true, true, true, true, true, true, false] rfl rfl (by kernel_rfl) (fun _ _ _ h => h) (Or.inl ⟨by rfl, ?_⟩) ?_ ?_
  rotate_left
  · intro w'
    go_simp
    with_reducible rfl
  rotate_left
  · simp only [Act.put, List.setIfInBounds_toArray, List.set_cons_zero, List.set_cons_succ, i64_w, i32_w]
    rfl
  refine last_ (i := 11) (N := none) #[true, true, true, true, true, true, true, true, true, true, true, true] rfl rfl (by kernel_rfl) (by decide) (fun K hK => ?_)
  obtain ⟨_, z0, z1, z2, z3, z4⟩ := SK.out _ _ H7.out
  have hfz := (row_put H7.out.o4 HLA.out).2.1
  have f0 := hfz (i * 5)
  have f1 := hfz (i * 5 + 1)
  have f2 := hfz (i * 5 + 2)
  have f3 := hfz (i * 5 + 3)
  have f4 := hfz (i * 5 + 4)
  clear hfz
  have hla2 : (x.f4.take i).length = i := by simp; omega
  have hltd := HD.out.lt
  obtain ⟨fp', hC7⟩ := H7.out.kid (B := wd.heap.size) rfl HDRX.out rfl rfl (HTA.out.move _ (fun b hb => by have hl := hw3.out.lt b (by simp [hb]); have hge := hw3.out.ge b (by simp [hb]); have hg0 := hw3.out.dr.lt; rw [HK7.out.2 b (by have := HD.out.lt b (by simp [hb]); omega) (by omega) (by simp)]; exact HDK.out b hl)) (HTB.out.move _ (fun b hb => by have hl := hw3.out.lt b (by simp [hb]); have hge := hw3.out.ge b (by simp [hb]); have hg0 := hw3.out.dr.lt; rw [HK7.out.2 b (by have := HD.out.lt b (by simp [hb]); omega) (by omega) (by simp)]; exact HDK.out b hl)) hltd HD.out.lts.2 HD.out.lts.1 HN.out
  rw [hla2] at hC7
  have HC7 := Lib.hid hC7
  clear hC7 hla2 hltd
  refine skip_ (w1 := ?_) (by rfl) rfl ?_ ?_
  rotate_left
  · go_simp
    rfl
  refine hK.out _ _ ?_
  clear hK K
  clear z0 z1 z2 z3 z4 f0 f1 f2 f3 f4
  refine done_ (by kernel_rfl) ?_
  have hC := HC7.out
  obtain ⟨p0, p1_, p2, p3, p4⟩ := fm_cells hC.k3
  obtain ⟨z0, z1, z2, z3, z4⟩ := fm_cells hC.k2
  obtain ⟨f0, f1, f2, f3, f4⟩ := fm_free hC.k2
  have hn1 : w1.heap.size ≠ w.heap.size + 1 := by have := hC.h3; omega
  have hn2 : w.heap.size + 1 ≠ w1.heap.size := fun e => hn1 e.symm
  have hl9 : (x.f4.take i ++ y :: x.f4.drop (i + 1)).length = x.f4.length := by simp; omega
  obtain ⟨st1, st2, st3⟩ := st5 HC7.out.k2 (.int .i64 x.f0) (.string x.f1) (.int .i64 x.f2) (.slice J3 x.f3.length q3) (.slice (some ⟨gr, 0, none⟩) x.f4.length q4)
  have HN := Lib.hid (HC7.out.newF st2)
  have HB := Lib.hid (HC7.out.dr.put5 (b := w.heap.size + 1) (by omega) (.int .i64 x.f0) (.string x.f1) (.int .i64 x.f2) (.slice J3 x.f3.length q3) (.slice (some ⟨gr, 0, none⟩) x.f4.length q4))
  clear st1 st2 st3
  have HL9 := Lib.hid hl9
  clear hC hl9
  go_wp2_with fail
  refine bodyPost_ret (v := .agg #[.int .i64 x.f0, .string x.f1, .int .i64 x.f2, .slice J3 x.f3.length q3, .slice (some ⟨gr, 0, none⟩) x.f4.length q4]) (by simp [results, Tryd.results32, go_sem, z0, z1, z2, z3, z4]) rfl ?_
  exact ⟨_, _, rfl, HN.out, HB.out.is, HB.out.b, HB.out.kp⟩
set_option maxHeartbeats 8000000 in
set_option maxRecDepth 100000 in
theorem mut_stop {s : List Int} (x : Fm) (p p1 q : Nat) (c : Int) (y : Fm) (ht : x.tot ≤ 200000)
    (hp1 : (x.f4 = [] ∧ p1 = p) ∨ (x.f4 ≠ [] ∧ p1 = p + 1 ∧ ∃ v : Int, v ≤ 0 ∧ Ev (fun k => Q.spec_l15Rd_pick.f k s (p : Int) 2) (v, ((p + 1 : Nat) : Int)))) (hc : Ev (fun k => Q.spec_l15Rd_pick.f k s (p1 : Int) 14) (c, ((p1 + 1 : Nat) : Int)))
    (h0 : c = 0 → ∃ n : Int, Ev (fun k => Q.spec_l15Rd_num.f k s ((p1 + 1 : Nat) : Int) [0, 4, 1, 3]) (n, ((p1 + 2 : Nat) : Int)) ∧ y = ⟨n, x.f1, x.f2, x.f3, x.f4⟩ ∧ q = p1 + 2)
    (h1 : c = 1 → ∃ n : ByteArray, Ev (fun k => Q.spec_l15Rd_of.f k s ((p1 + 1 : Nat) : Int) badNms) (n, ((p1 + 2 : Nat) : Int)) ∧ y = ⟨x.f0, n, x.f2, x.f3, x.f4⟩ ∧ q = p1 + 2)
    (h2 : c = 2 → ∃ n : Int, Ev (fun k => Q.spec_l15Rd_num.f k s ((p1 + 1 : Nat) : Int) [1000, -1, 5]) (n, ((p1 + 2 : Nat) : Int)) ∧ y = ⟨x.f0, x.f1, n, x.f3, x.f4⟩ ∧ q = p1 + 2)
    (h3 : c = 3 → ∃ n : Int, Ev (fun k => Q.spec_l15Rd_num.f k s ((p1 + 1 : Nat) : Int) [0, 100, 1, 50]) (n, ((p1 + 2 : Nat) : Int)) ∧ y = ⟨x.f0, x.f1, x.f2, x.f3 ++ [n], x.f4⟩ ∧ q = p1 + 2)
    (h4 : c ≠ 0 → c ≠ 1 → c ≠ 2 → c ≠ 3 → y = ⟨x.f0, x.f1, x.f2, x.f3, x.f4⟩ ∧ q = p1 + 1) : MutOk s x p y q := by
  obtain ⟨kc, hkc⟩ := hc.rounds
  have HKC := Lib.hid hkc
  have HP1 := Lib.hid hp1
  have H0 := Lib.hid h0
  have H1 := Lib.hid h1
  have H2 := Lib.hid h2
  have HS3 := Lib.hid h3
  have H4 := Lib.hid h4
  clear hc hkc hp1 h0 h1 h2 h3 h4
  intro g A3 c3 A4 c4 w0 w hi hb hin
  have hmax := hin.g4.2.1
  have HI := Lib.hid hin
  have HD0 := Lib.hid (Dr.new hi hb)
  have HT := Lib.hid ht
  have hlen := len_totL x.f4
  have hxt := x.tot_eq
  have HLN := Lib.hid (show x.f4.length ≤ 200000 by omega)
  have HL3 := Lib.hid (show x.f3.length ≤ 200000 by omega)
  clear hin hi hb ht hlen hxt
  go_enter Tryd.func32, Tryd.ntmps32
  go_wp2_with fail
  refine (l1Copy_any x A3 c3 A4 c4 _ (HI.out.below (below_step (below_new _ _) (below_new _ _))) (by have := HT.out; omega)).mono ?_
  rintro e w1 ⟨u3, u4, rfl, hn, hb1⟩
  obtain ⟨J3, q3, J4, q4, rfl, rfl⟩ : ∃ J3 q3 J4 q4, u3 = .slice J3 x.f3.length q3 ∧ u4 = .slice J4 x.f4.length q4 := by
    obtain ⟨fk, hk2, _⟩ := hn
    obtain ⟨J3, q3, J4, q4, e3, e4, _⟩ := hk2.In
    exact ⟨J3, q3, J4, q4, e3, e4⟩
  obtain ⟨k1, k2, b1⟩ := two_new hb1
  rw [show ((w.alloc (.cells #[.int .i64 x.f0, .string x.f1, .int .i64 x.f2, .slice A3 x.f3.length c3, .slice A4 x.f4.length c4] 26)).alloc (.cells #[.int .i64 0, .string ⟨#[]⟩, .int .i64 0, .slice none 0 0, .slice none 0 0] 26)).heap.size = w.heap.size + 2 from by simp] at hn
  obtain ⟨inner, fp, hdp⟩ := Dp.start (HD0.out.later b1) k1 k2 hn
  have HDP := Lib.hid hdp
  clear hb1 hn k1 k2 b1 hdp
  go_upto_region 2 with fail
  (try simp only [Act.put, List.setIfInBounds_toArray, List.set_cons_zero, List.set_cons_succ])
  go_cut [17] (fun v17 wc => ∃ (inner : List Value) (fp : List Nat), v17 = .bool false ∧ Aside0 (Dp w0 w g s (p1 : Int) (.cells #[.int .i64 x.f0, .string x.f1, .int .i64 x.f2, .slice A3 x.f3.length c3, .slice A4 x.f4.length c4] 26) (.cells #[.int .i64 0, .string ⟨#[]⟩, .int .i64 0, .slice none 0 0, .slice none 0 0] 26) w1.heap.size x.f0 x.f1 x.f2 x.f3 x.f4 (.slice J3 x.f3.length q3) (.slice J4 x.f4.length q4) inner fp wc))
  case first =>
    rcases HP1.out with ⟨he, ep⟩ | ⟨he, ep, v, hv, h2⟩
    · have t1 : decide ((x.f4.length : Int) > 0) = false := decide_eq_false (by rw [he]; simp)
      have t1' : decide (0 < x.f4.length) = false := decide_eq_false (by rw [he]; simp)
      have HEP := Lib.hid ep
      clear he ep
      go_wp2_with fail
      go_meet
      case rel => exact ⟨inner, fp, rfl, ⟨by rw [HEP.out]; exact HDP.out⟩⟩
    · have t1 : decide ((x.f4.length : Int) > 0) = true := decide_eq_true (by have := List.length_pos_iff.2 he; omega)
      have t1' : decide (0 < x.f4.length) = true := decide_eq_true (List.length_pos_iff.2 he)
      have t2 : decide (v > 0) = false := decide_eq_false (by omega)
      have t2' : decide (0 < v) = false := decide_eq_false (by omega)
      obtain ⟨ka, hka⟩ := h2.rounds
      have HKA := Lib.hid hka
      have HEP := Lib.hid ep
      clear he ep hv h2 hka
      go_wp2_with fail
      refine (Q.spec_l15Rd_pick.calls ka g s _ 2 v _ w0 _ HDP.out.dr.is HDP.out.dr.b HKA.out).mono ?_
      rintro e w2 ⟨rfl, hi, hb, hk⟩
      have hw2 := Lib.hid (HDP.out.call hi hb hk)
      clear hi hb hk
      go_wp2_with fail
      go_meet
      case rel => exact ⟨inner, fp, rfl, ⟨by rw [HEP.out]; exact hw2.out⟩⟩
  case rest =>
    clear HDP inner fp
    obtain ⟨inner, fp, rfl, HDP⟩ := hcut
    go_wp2_with fail
    refine (Q.spec_l15Rd_pick.calls kc g s _ 14 c _ w0 _ HDP.out.dr.is HDP.out.dr.b HKC.out).mono ?_
    rintro e w3 ⟨rfl, hi, hb, hk⟩
    have hw3 := Lib.hid (HDP.out.call hi hb hk)
    clear hi hb hk
    by_cases c0 : c = 0
    · subst c0
      obtain ⟨n, hn, rfl, rfl⟩ := H0.out rfl
      obtain ⟨kn, hkn⟩ := hn.rounds
      have HKN := Lib.hid hkn
      clear hn hkn
      go_wp2_with fail
      have hblk := blk_new w3 (.cells #[.int .i64 0, .int .i64 4, .int .i64 1, .int .i64 3] 3 (0, 0))
      have HRB := Lib.hid (reads_block (l := [0, 4, 1, 3]) hblk (by simp) rfl)
      have HNE := Lib.hid (show w3.heap.size ≠ g from by have := hw3.out.dr.lt; have := hw3.out.lts; omega)
      clear hblk
      refine (Q.spec_l15Rd_num.calls kn g s _ (some ⟨w3.heap.size, 0, none⟩) _ [0, 4, 1, 3] n _ w0 _ (hw3.out.dr.later (below_new _ _)).is (hw3.out.dr.later (below_new _ _)).b HRB.out (Nat.le_refl _) (fun ad e _ => by cases e; exact HNE.out) HKN.out).mono ?_
      rintro e w4 ⟨rfl, hi, hb, hk⟩
      have hw4 := Lib.hid ((hw3.out.later (below_new _ _)).call hi hb hk)
      have HC7 := Lib.hid (hw4.out.put (j := 0) (u := .int .i64 n) (by simpa using blk_set hw4.out.k3 0 (.int .i64 n)))
      clear hi hb hk
      have hC := hw4.out
      obtain ⟨p0, p1_, p2, p3, p4⟩ := fm_cells hC.k3
      obtain ⟨o0, o1, o2, o3, o4⟩ := fm_free hC.k3
      obtain ⟨z0, z1, z2, z3, z4⟩ := fm_cells hC.k2
      obtain ⟨f0, f1, f2, f3, f4⟩ := fm_free hC.k2
      have hn1 : w1.heap.size ≠ w.heap.size + 1 := by have := hC.h3; omega
      have hn2 : w.heap.size + 1 ≠ w1.heap.size := fun e => hn1 e.symm
      clear hC
      obtain ⟨st1, st2, st3⟩ := st5 HC7.out.k2 (.int .i64 n) (.string x.f1) (.int .i64 x.f2) (.slice J3 x.f3.length q3) (.slice J4 x.f4.length q4)
      have HN := Lib.hid (HC7.out.newF st2)
      have HB := Lib.hid (HC7.out.dr.put5 (b := w.heap.size + 1) (by omega) (.int .i64 n) (.string x.f1) (.int .i64 x.f2) (.slice J3 x.f3.length q3) (.slice J4 x.f4.length q4))
      clear st1 st2 st3
      go_wp2_with fail
      refine bodyPost_ret (v := .agg #[.int .i64 n, .string x.f1, .int .i64 x.f2, .slice J3 x.f3.length q3, (.slice J4 x.f4.length q4)]) (by simp [results, Tryd.results32, go_sem, z0, z1, z2, z3, z4, hn1, hn2]) rfl ?_
      exact ⟨_, _, rfl, HN.out, HB.out.is, HB.out.b, HB.out.kp⟩
    by_cases c1 : c = 1
    · subst c1
      clear c0
      obtain ⟨n, hn, rfl, rfl⟩ := H1.out rfl
      obtain ⟨kn, hkn⟩ := hn.rounds
      have HKN := Lib.hid hkn
      clear hn hkn
      go_wp2_with fail
      have hblk := blk_new w3 (.cells #[.string ⟨#[]⟩, .string ⟨#[65]⟩, .string ⟨#[116, 111, 111, 108, 111, 110, 103, 97, 110, 97, 109, 101, 49]⟩, .string ⟨#[122]⟩, .string ⟨#[120, 32, 121]⟩] 9 (0, 0))
      have HRB := Lib.hid (reads_strs (l := badNms) hblk (by simp) rfl)
      have HNE := Lib.hid (show w3.heap.size ≠ g from by have := hw3.out.dr.lt; have := hw3.out.lts; omega)
      clear hblk
      refine (Q.spec_l15Rd_of.calls kn g s _ (some ⟨w3.heap.size, 0, none⟩) _ badNms n _ w0 _ (hw3.out.dr.later (below_new _ _)).is (hw3.out.dr.later (below_new _ _)).b HRB.out (Nat.le_refl _) (fun ad e _ => by cases e; exact HNE.out) HKN.out).mono ?_
      rintro e w4 ⟨rfl, hi, hb, hk⟩
      have hw4 := Lib.hid ((hw3.out.later (below_new _ _)).call hi hb hk)
      have HC7 := Lib.hid (hw4.out.put (j := 1) (u := .string n) (by simpa using blk_set hw4.out.k3 1 (.string n)))
      clear hi hb hk
      have hC := hw4.out
      obtain ⟨p0, p1_, p2, p3, p4⟩ := fm_cells hC.k3
      obtain ⟨o0, o1, o2, o3, o4⟩ := fm_free hC.k3
      obtain ⟨z0, z1, z2, z3, z4⟩ := fm_cells hC.k2
      obtain ⟨f0, f1, f2, f3, f4⟩ := fm_free hC.k2
      have hn1 : w1.heap.size ≠ w.heap.size + 1 := by have := hC.h3; omega
      have hn2 : w.heap.size + 1 ≠ w1.heap.size := fun e => hn1 e.symm
      clear hC
      obtain ⟨st1, st2, st3⟩ := st5 HC7.out.k2 (.int .i64 x.f0) (.string n) (.int .i64 x.f2) (.slice J3 x.f3.length q3) (.slice J4 x.f4.length q4)
      have HN := Lib.hid (HC7.out.newF st2)
      have HB := Lib.hid (HC7.out.dr.put5 (b := w.heap.size + 1) (by omega) (.int .i64 x.f0) (.string n) (.int .i64 x.f2) (.slice J3 x.f3.length q3) (.slice J4 x.f4.length q4))
      clear st1 st2 st3
      go_wp2_with fail
      refine bodyPost_ret (v := .agg #[.int .i64 x.f0, .string n, .int .i64 x.f2, .slice J3 x.f3.length q3, (.slice J4 x.f4.length q4)]) (by simp [results, Tryd.results32, go_sem, z0, z1, z2, z3, z4, hn1, hn2]) rfl ?_
      exact ⟨_, _, rfl, HN.out, HB.out.is, HB.out.b, HB.out.kp⟩
    by_cases c2 : c = 2
    · subst c2
      clear c0 c1
      obtain ⟨n, hn, rfl, rfl⟩ := H2.out rfl
      obtain ⟨kn, hkn⟩ := hn.rounds
      have HKN := Lib.hid hkn
      clear hn hkn
      go_wp2_with fail
      have hblk := blk_new w3 (.cells #[.int .i64 1000, .int .i64 (-1), .int .i64 5] 3 (0, 0))
      have HRB := Lib.hid (reads_block (l := [1000, -1, 5]) hblk (by simp) rfl)
      have HNE := Lib.hid (show w3.heap.size ≠ g from by have := hw3.out.dr.lt; have := hw3.out.lts; omega)
      clear hblk
      refine (Q.spec_l15Rd_num.calls kn g s _ (some ⟨w3.heap.size, 0, none⟩) _ [1000, -1, 5] n _ w0 _ (hw3.out.dr.later (below_new _ _)).is (hw3.out.dr.later (below_new _ _)).b HRB.out (Nat.le_refl _) (fun ad e _ => by cases e; exact HNE.out) HKN.out).mono ?_
      rintro e w4 ⟨rfl, hi, hb, hk⟩
      have hw4 := Lib.hid ((hw3.out.later (below_new _ _)).call hi hb hk)
      have HC7 := Lib.hid (hw4.out.put (j := 2) (u := .int .i64 n) (by simpa using blk_set hw4.out.k3 2 (.int .i64 n)))
      clear hi hb hk
      have hC := hw4.out
      obtain ⟨p0, p1_, p2, p3, p4⟩ := fm_cells hC.k3
      obtain ⟨o0, o1, o2, o3, o4⟩ := fm_free hC.k3
      obtain ⟨z0, z1, z2, z3, z4⟩ := fm_cells hC.k2
      obtain ⟨f0, f1, f2, f3, f4⟩ := fm_free hC.k2
      have hn1 : w1.heap.size ≠ w.heap.size + 1 := by have := hC.h3; omega
      have hn2 : w.heap.size + 1 ≠ w1.heap.size := fun e => hn1 e.symm
      clear hC
      obtain ⟨st1, st2, st3⟩ := st5 HC7.out.k2 (.int .i64 x.f0) (.string x.f1) (.int .i64 n) (.slice J3 x.f3.length q3) (.slice J4 x.f4.length q4)
      have HN := Lib.hid (HC7.out.newF st2)
      have HB := Lib.hid (HC7.out.dr.put5 (b := w.heap.size + 1) (by omega) (.int .i64 x.f0) (.string x.f1) (.int .i64 n) (.slice J3 x.f3.length q3) (.slice J4 x.f4.length q4))
      clear st1 st2 st3
      go_wp2_with fail
      refine bodyPost_ret (v := .agg #[.int .i64 x.f0, .string x.f1, .int .i64 n, .slice J3 x.f3.length q3, (.slice J4 x.f4.length q4)]) (by simp [results, Tryd.results32, go_sem, z0, z1, z2, z3, z4, hn1, hn2]) rfl ?_
      exact ⟨_, _, rfl, HN.out, HB.out.is, HB.out.b, HB.out.kp⟩
    by_cases c3_ : c = 3
    · subst c3_
      clear c0 c1 c2
      obtain ⟨n, hn, rfl, rfl⟩ := HS3.out rfl
      obtain ⟨kn, hkn⟩ := hn.rounds
      have HKN := Lib.hid hkn
      clear hn hkn
      have hp3 := (fm_cells hw3.out.k3).2.2.2.1
      go_wp2_with fail
      have HD := Lib.hid (hw3.out.later (below_drew (Below.refl _ _)))
      refine start_ (n := 9) (S := (fun W : World => W.cell? ⟨w1.heap.size, 3, none⟩ = some (.slice J3 x.f3.length q3))) (ds := [8]) #[false, false, false, false, false, false, false, false, false] (by kernel_rfl) rfl rfl (fm_cells HD.out.k3).2.2.2.1 (fun hHeld => ?_)
      clear hp3
      generalize w3.drew = wd at HD hHeld ⊢
      refine pure_ (i := 0) (N := some 57) (v := ?_) (a' := ?_) #[true, false, false, false, false, false, false, false, false] rfl rfl (by kernel_rfl) (fun _ _ _ h => h) (Or.inl ⟨by rfl, ?_⟩) ?_ ?_
      rotate_left
      · intro w'
        go_simp
        with_reducible rfl
      rotate_left
      · simp only [Act.put, List.setIfInBounds_toArray, List.set_cons_zero, List.set_cons_succ, i64_w, i32_w]
        rfl
      refine pure_ (i := 2) (N := some 59) (v := ?_) (a' := ?_) #[true, false, true, false, false, false, false, false, false] rfl rfl (by kernel_rfl) (fun _ _ _ h => h) (Or.inl ⟨by rfl, ?_⟩) ?_ ?_
      rotate_left
      · intro w'
        go_simp
        with_reducible rfl
      rotate_left
      · simp only [Act.put, List.setIfInBounds_toArray, List.set_cons_zero, List.set_cons_succ, i64_w, i32_w]
        rfl
      refine take_ (i := 1) (N := some 58) (v := ?_) (a' := ?_) #[true, true, true, false, false, false, false, false, false] rfl rfl (by kernel_rfl) (fun _ _ _ h => h) (Or.inl ⟨by rfl, ?_⟩) hHeld ?_ ?_
      rotate_left
      · rintro w' s0
        go_simp
        with_reducible rfl
      rotate_left
      · simp only [Act.put, List.setIfInBounds_toArray, List.set_cons_zero, List.set_cons_succ, i64_w, i32_w]
        rfl
      refine one_ (i := 3) (N := some 60) #[true, true, true, true, false, false, false, false, false] rfl rfl (by kernel_rfl) (by decide) (fun K hK => ?_)
      refine value_ (w1 := ?_) (v := ?_) (by rfl) rfl ?_ ?_
      rotate_left 2
      · go_simp
        constructor
        · rfl
        · rfl
      refine hK.out _ _ (fm_cells (HD.out.later (below_new _ _)).k3).2.2.2.1 (fun hHeld => ?_)
      clear hK K
      refine norm_ (a' := ?_) ?_ ?_
      rotate_left
      · show Act.put _ (some 60) _ = _
        simp only [Act.put, List.setIfInBounds_toArray, List.set_cons_zero, List.set_cons_succ, i64_w, i32_w]
        rfl
      have hblk := blk_new wd (.cells #[.int .i64 0, .int .i64 100, .int .i64 1, .int .i64 50] 3 (0, 0))
      have HRB := Lib.hid (reads_block (l := [0, 100, 1, 50]) hblk (by simp) rfl)
      have HNE := Lib.hid (show wd.heap.size ≠ g from by have := HD.out.dr.lt; have := HD.out.lts; omega)
      clear hblk
      refine one_ (i := 4) (N := some 61) #[true, true, true, true, true, false, false, false, false] rfl rfl (by kernel_rfl) (by decide) (fun K hK => ?_)
      refine goes_ Tryd.func62 (by kernel_rfl) rfl #[.pointer (some ⟨g, 0, none⟩), .slice (some ⟨wd.heap.size, 0, none⟩) 4 4] (by rfl) rfl rfl (by (try simp only [List.map_toArray, List.map_cons, List.map_nil]); first | done | rfl) ?_
      refine (Q.spec_l15Rd_num.calls kn g s _ (some ⟨wd.heap.size, 0, none⟩) _ [0, 100, 1, 50] n _ w0 _ (HD.out.dr.later (below_new _ _)).is (HD.out.dr.later (below_new _ _)).b HRB.out (Nat.le_refl _) (fun ad e _ => by cases e; exact HNE.out) HKN.out).mono ?_
      rintro e w4 ⟨rfl, hi, hb, hk⟩
      refine ⟨_, rfl, ?_⟩
      have hw4 := Lib.hid ((HD.out.later (below_new _ _)).call hi hb hk)
      clear hi hb hk
      refine hK.out _ _ (fm_cells hw4.out.k3).2.2.2.1 (fun hHeld => ?_)
      clear hK K
      refine norm_ (a' := ?_) ?_ ?_
      rotate_left
      · show Act.put _ (some 61) _ = _
        simp only [Act.put, List.setIfInBounds_toArray, List.set_cons_zero, List.set_cons_succ, i64_w, i32_w]
        rfl
      refine one_ (i := 5) (N := some 62) #[true, true, true, true, true, true, false, false, false] rfl rfl (by kernel_rfl) (by decide) (fun K hK => ?_)
      refine value_ (w1 := ?_) (v := ?_) (by rfl) rfl ?_ ?_
      rotate_left 2
      · go_simp
        constructor
        · rfl
        · rfl
      refine hK.out _ _ (fm_cells (hw4.out.later (below_new _ _)).k3).2.2.2.1 (fun hHeld => ?_)
      clear hK K
      refine norm_ (a' := ?_) ?_ ?_
      rotate_left
      · show Act.put _ (some 62) _ = _
        simp only [Act.put, List.setIfInBounds_toArray, List.set_cons_zero, List.set_cons_succ, i64_w, i32_w]
        rfl
      refine one_ (i := 6) (N := some 63) #[true, true, true, true, true, true, true, false, false] rfl rfl (by kernel_rfl) (by decide) (fun K hK => ?_)
      refine step_append_cells (w0 := w0) (W := w4) w0.heap.size (by rfl) (.tmp 58) (.tmp 62) 23 3 (.int .i64 0) 1 8 rfl Tryd.underlying23 infoI rfl (by decide) (by omega) (.slice J3 x.f3.length q3) x.f3.length (encI x.f3) [.int .i64 n] rfl rfl rfl (by simp [Value.oneCell']) (own_base_ hw4.out.o3 (fun b hb => by have := (hw4.out.own3 b hb).1; have := keep_size hw4.out.dr.kp; have := HD0.out.b.size; omega)) hw4.out.dr.b hw4.out.dr.b.size (by have := HL3.out; omega) ?_
      intro v' w8 ho hb8 hg8 hat8
      have ho8 : w8.ownsRow 0 3 1 v' (x.f3 ++ [n]).length (encI (x.f3 ++ [n])) := by
        rw [List.length_append, show encI (x.f3 ++ [n]) = encI x.f3 ++ [.int .i64 n] from by simp [encs]]
        exact own_weaken ho (Nat.zero_le _)
      have hdp8 := hw4.out.scopes hg8 (hw4.out.own3) ho8 (fun b hb => by
        rcases hat8 with h | ⟨c, h, hc⟩
        · exact hw4.out.own3 b (h ▸ hb)
        · rw [h] at hb; cases hb; exact hw4.out.fresh hc)
      have hk38 := (hg8.block _ hw4.out.lts.2 (fun e => (hw4.out.own3 _ e.symm).2.1 rfl)).trans hw4.out.k3
      have hv' : ∃ A c, v' = .slice A (x.f3.length + 1) c := by
        rcases ho with ⟨_, ⟨rfl, h0⟩ | ⟨g, cap, cur, rfl, _⟩⟩
        · exact absurd h0 (by omega)
        · exact ⟨_, _, rfl⟩
      obtain ⟨A', c', rfl⟩ := hv'
      have HC7 := Lib.hid hdp8
      have HK38 := Lib.hid hk38
      clear ho hb8 hg8 hat8 ho8 hdp8 hk38
      refine hK.out _ _ (fm_cells HK38.out).2.2.2.1 (fun hHeld => ?_)
      clear hK K
      refine norm_ (a' := ?_) ?_ ?_
      rotate_left
      · show Act.put _ (some 63) _ = _
        simp only [Act.put, List.setIfInBounds_toArray, List.set_cons_zero, List.set_cons_succ, i64_w, i32_w]
        rfl
      refine pure_ (i := 7) (N := some 64) (v := ?_) (a' := ?_) #[true, true, true, true, true, true, true, true, false] rfl rfl (by kernel_rfl) (fun _ _ _ h => h) (Or.inl ⟨by rfl, ?_⟩) ?_ ?_
      rotate_left
      · intro w'
        go_simp
        with_reducible rfl
      rotate_left
      · simp only [Act.put, List.setIfInBounds_toArray, List.set_cons_zero, List.set_cons_succ, i64_w, i32_w]
        rfl
      refine last_ (i := 8) (N := none) #[true, true, true, true, true, true, true, true, true] rfl rfl (by kernel_rfl) (by decide) (fun K hK => ?_)
      have z3 := (fm_cells HK38.out).2.2.2.1
      have f3 := (fm_free HK38.out).2.2.2.1
      refine skip_ (w1 := ?_) (by rfl) rfl ?_ ?_
      rotate_left
      · go_simp
        rfl
      refine hK.out _ _ ?_
      clear hK K
      clear z3 f3
      refine done_ (by kernel_rfl) ?_
      have hl9 : (x.f3 ++ [n]).length = x.f3.length + 1 := by simp
      have hC := HC7.out
      obtain ⟨p0, p1_, p2, p3, p4⟩ := fm_cells hC.k3
      obtain ⟨o0, o1, o2, o3, o4⟩ := fm_free hC.k3
      obtain ⟨z0, z1, z2, z3, z4⟩ := fm_cells hC.k2
      obtain ⟨f0, f1, f2, f3, f4⟩ := fm_free hC.k2
      have hn1 : w1.heap.size ≠ w.heap.size + 1 := by have := hC.h3; omega
      have hn2 : w.heap.size + 1 ≠ w1.heap.size := fun e => hn1 e.symm
      clear hC
      obtain ⟨st1, st2, st3⟩ := st5 HC7.out.k2 (.int .i64 x.f0) (.string x.f1) (.int .i64 x.f2) (.slice A' (x.f3.length + 1) c') (.slice J4 x.f4.length q4)
      have HN := Lib.hid (HC7.out.newF st2)
      have HB := Lib.hid (HC7.out.dr.put5 (b := w.heap.size + 1) (by omega) (.int .i64 x.f0) (.string x.f1) (.int .i64 x.f2) (.slice A' (x.f3.length + 1) c') (.slice J4 x.f4.length q4))
      clear st1 st2 st3
      have HL9 := Lib.hid hl9
      clear hl9
      go_wp2_with fail
      refine bodyPost_ret (v := .agg #[.int .i64 x.f0, .string x.f1, .int .i64 x.f2, .slice A' (x.f3.length + 1) c', .slice J4 x.f4.length q4]) (by simp [results, Tryd.results32, go_sem, z0, z1, z2, z3, z4]) rfl ?_
      exact ⟨_, _, rfl, HN.out, HB.out.is, HB.out.b, HB.out.kp⟩
    · obtain ⟨rfl, rfl⟩ := H4.out c0 c1 c2 c3_
      have e0 : (c == 0) = false := beq_eq_false_iff_ne.mpr c0
      have e1 : (c == 1) = false := beq_eq_false_iff_ne.mpr c1
      have e2 : (c == 2) = false := beq_eq_false_iff_ne.mpr c2
      have e3 : (c == 3) = false := beq_eq_false_iff_ne.mpr c3_
      clear c0 c1 c2 c3_
      have hC := hw3.out
      obtain ⟨p0, p1_, p2, p3, p4⟩ := fm_cells hC.k3
      obtain ⟨o0, o1, o2, o3, o4⟩ := fm_free hC.k3
      obtain ⟨z0, z1, z2, z3, z4⟩ := fm_cells hC.k2
      obtain ⟨f0, f1, f2, f3, f4⟩ := fm_free hC.k2
      have hn1 : w1.heap.size ≠ w.heap.size + 1 := by have := hC.h3; omega
      have hn2 : w.heap.size + 1 ≠ w1.heap.size := fun e => hn1 e.symm
      clear hC
      obtain ⟨st1, st2, st3⟩ := st5 hw3.out.k2 (.int .i64 x.f0) (.string x.f1) (.int .i64 x.f2) (.slice J3 x.f3.length q3) (.slice J4 x.f4.length q4)
      have HN := Lib.hid (hw3.out.newF st2)
      have HB := Lib.hid (hw3.out.dr.put5 (b := w.heap.size + 1) (by omega) (.int .i64 x.f0) (.string x.f1) (.int .i64 x.f2) (.slice J3 x.f3.length q3) (.slice J4 x.f4.length q4))
      clear st1 st2 st3
      go_wp2_with fail
      refine bodyPost_ret (v := .agg #[.int .i64 x.f0, .string x.f1, .int .i64 x.f2, .slice J3 x.f3.length q3, (.slice J4 x.f4.length q4)]) (by simp [results, Tryd.results32, go_sem, z0, z1, z2, z3, z4]) rfl ?_
      exact ⟨_, _, rfl, HN.out, HB.out.is, HB.out.b, HB.out.kp⟩
end Go.Proofs.YteeepenncddnjaaDoor
end
section
namespace Go.Proofs.YteeepenncddnjaaDoor
set_option linter.unusedVariables false
def Bn : Nat → Nat
  | 0 => 13
  | d + 1 => 13 + 3 * (Bn d + 1)
theorem Bn_le {d : Nat} (h : d ≤ 4) : Bn d ≤ 1693 := by
  rcases (show d = 0 ∨ d = 1 ∨ d = 2 ∨ d = 3 ∨ d = 4 by omega) with rfl | rfl | rfl | rfl | rfl <;> decide
theorem Bn_pos (d : Nat) : 13 ≤ Bn d := by
  cases d <;> simp [Bn]
theorem set_totL (l : List Fm) (i : Nat) (h : i < l.length) (y : Fm) : totL (l.set i y) + l[i].tot = totL l + y.tot := by
  induction l generalizing i with
  | nil => simp at h
  | cons a l ih =>
    cases i with
    | zero => simp [totL]; omega
    | succ i =>
      have := ih i (by simpa using h)
      simp only [List.set_cons_succ, totL, List.getElem_cons_succ]
      omega
theorem set_sizes (l : List Fm) (i : Nat) (h : i < l.length) (y : Fm) : sizes (l.set i y) + l[i].size = sizes l + y.size := by
  induction l generalizing i with
  | nil => simp at h
  | cons a l ih =>
    cases i with
    | zero => simp [sizes]; omega
    | succ i =>
      have := ih i (by simpa using h)
      simp only [List.set_cons_succ, sizes, List.getElem_cons_succ]
      omega
abbrev nms : List ByteArray := [(⟨#[97]⟩ : ByteArray), (⟨#[98]⟩ : ByteArray), (⟨#[120]⟩ : ByteArray), (⟨#[121]⟩ : ByteArray), (⟨#[102]⟩ : ByteArray), (⟨#[105, 102]⟩ : ByteArray), (⟨#[108, 101, 116]⟩ : ByteArray), (⟨#[43]⟩ : ByteArray)]
theorem names_small : ∀ v, v ∈ nms → v.size ≤ 13 := by
  intro v hv
  simp only [List.mem_cons, List.not_mem_nil, or_false] at hv
  rcases hv with h | h | h | h | h | h | h | h <;> (rw [h]; decide)
end Go.Proofs.YteeepenncddnjaaDoor
end
section
namespace Go.Proofs.YteeepenncddnjaaDoor
open Go.RowKit Go.Proofs.YteeepenncddnjaaDoorW.PrintWords
set_option linter.unusedVariables false
set_option linter.unusedSimpArgs false
theorem badNms_small : ∀ v, v ∈ badNms → v.size ≤ 13 := by
  intro v hv
  simp only [badNms, List.mem_cons, List.not_mem_nil, or_false] at hv
  rcases hv with h | h | h | h | h <;> (rw [h]; decide)
theorem mutate_ex {s : List Int} (hs : Bts s) : ∀ x : Fm, x.tot ≤ 200000 → ∀ p : Nat, p + 3 * x.size ≤ 1000000 → ∃ (y : Fm) (q : Nat), q ≤ p + 3 * x.size ∧ y.tot ≤ x.tot + 14 ∧ y.size = x.size ∧ MutOk s x p y q := by
  intro x
  induction x using Fm.ind with
  | h x ih =>
  intro ht p hp
  have hsz := x.size_eq
  have htt := x.tot_eq
  have leaf : ∀ p1 : Nat, p1 + 2 ≤ 1000000 → ((x.f4 = [] ∧ p1 = p) ∨ (x.f4 ≠ [] ∧ p1 = p + 1 ∧ ∃ v : Int, v ≤ 0 ∧ Ev (fun k => Q.spec_l15Rd_pick.f k s (p : Int) 2) (v, ((p + 1 : Nat) : Int)))) → ∃ (y : Fm) (q : Nat), q ≤ p1 + 2 ∧ y.tot ≤ x.tot + 14 ∧ y.size = x.size ∧ MutOk s x p y q := by
    intro p1 hp1 hpre
    obtain ⟨c, hc, e1⟩ := ev_pick hs p1 (by omega) 14 (by omega)
    obtain ⟨n0, _, e2⟩ := ev_num hs (p1 + 1) (by omega) [0, 4, 1, 3] (by simp) (by simp)
    obtain ⟨n1, hn1, e3⟩ := ev_of hs (p1 + 1) (by omega) badNms (by simp) (by simp)
    obtain ⟨n2, _, e4⟩ := ev_num hs (p1 + 1) (by omega) [1000, -1, 5] (by simp) (by simp)
    obtain ⟨n3, _, e5⟩ := ev_num hs (p1 + 1) (by omega) [0, 100, 1, 50] (by simp) (by simp)
    have hb := badNms_small n1 hn1
    by_cases c0 : c = 0
    · exact ⟨⟨n0, x.f1, x.f2, x.f3, x.f4⟩, p1 + 2, by omega, by rw [Fm.tot_eq]; dsimp only; omega, by rw [Fm.size_eq]; dsimp only; omega, mut_stop x p p1 _ c _ ht hpre e1 (fun _ => ⟨n0, e2, rfl, rfl⟩) (fun h => by omega) (fun h => by omega) (fun h => by omega) (fun h => absurd c0 h)⟩
    by_cases c1 : c = 1
    · exact ⟨⟨x.f0, n1, x.f2, x.f3, x.f4⟩, p1 + 2, by omega, by rw [Fm.tot_eq]; dsimp only; omega, by rw [Fm.size_eq]; dsimp only; omega, mut_stop x p p1 _ c _ ht hpre e1 (fun h => absurd h c0) (fun _ => ⟨n1, e3, rfl, rfl⟩) (fun h => by omega) (fun h => by omega) (fun _ h => absurd c1 h)⟩
    by_cases c2 : c = 2
    · exact ⟨⟨x.f0, x.f1, n2, x.f3, x.f4⟩, p1 + 2, by omega, by rw [Fm.tot_eq]; dsimp only; omega, by rw [Fm.size_eq]; dsimp only; omega, mut_stop x p p1 _ c _ ht hpre e1 (fun h => absurd h c0) (fun h => absurd h c1) (fun _ => ⟨n2, e4, rfl, rfl⟩) (fun h => by omega) (fun _ _ h => absurd c2 h)⟩
    by_cases c3 : c = 3
    · exact ⟨⟨x.f0, x.f1, x.f2, x.f3 ++ [n3], x.f4⟩, p1 + 2, by omega, by rw [Fm.tot_eq]; simp only [List.length_append, List.length_cons, List.length_nil]; omega, by rw [Fm.size_eq]; dsimp only; omega, mut_stop x p p1 _ c _ ht hpre e1 (fun h => absurd h c0) (fun h => absurd h c1) (fun h => absurd h c2) (fun _ => ⟨n3, e5, rfl, rfl⟩) (fun _ _ _ h => absurd c3 h)⟩
    · exact ⟨⟨x.f0, x.f1, x.f2, x.f3, x.f4⟩, p1 + 1, by omega, by rw [Fm.tot_eq]; dsimp only; omega, by rw [Fm.size_eq]; dsimp only; omega, mut_stop x p p1 _ c _ ht hpre e1 (fun h => absurd h c0) (fun h => absurd h c1) (fun h => absurd h c2) (fun h => absurd h c3) (fun _ _ _ _ => ⟨rfl, rfl⟩)⟩
  by_cases h0 : x.f4 = []
  · obtain ⟨y, q, g1, g2, g3, g4⟩ := leaf p (by omega) (.inl ⟨h0, rfl⟩)
    exact ⟨y, q, by omega, g2, g3, g4⟩
  · obtain ⟨v, hv, e1⟩ := ev_pick hs p (by omega) 2 (by omega)
    have hl := List.length_pos_iff.2 h0
    have hone : 1 ≤ sizes x.f4 := by
      have := sizes_mem (List.getElem_mem hl)
      have := (x.f4[0]'hl).size_eq
      omega
    by_cases hz : 0 < v
    · obtain ⟨n, hn, e2⟩ := ev_pick hs (p + 1) (by omega) (x.f4.length : Int) (by have := len_totL x.f4; omega)
      obtain ⟨m, rfl⟩ := Int.eq_ofNat_of_zero_le (hn (by omega)).1
      have hm : m < x.f4.length := by have := (hn (by omega)).2; omega
      have hk := totL_mem (List.getElem_mem hm)
      have hsm := sizes_mem (List.getElem_mem hm)
      obtain ⟨y, q, g1, g2, g3, g4⟩ := ih _ (List.getElem_mem hm) (by omega) (p + 2) (by omega)
      have hst := set_totL x.f4 m hm y
      have hss := set_sizes x.f4 m hm y
      have hse : x.f4.set m y = x.f4.take m ++ y :: x.f4.drop (m + 1) := List.set_eq_take_append_cons_drop.trans (by rw [if_pos hm])
      rw [hse] at hst hss
      exact ⟨⟨x.f0, x.f1, x.f2, x.f3, x.f4.take m ++ y :: x.f4.drop (m + 1)⟩, q, by omega, by rw [Fm.tot_eq]; dsimp only; omega, by rw [Fm.size_eq]; dsimp only; omega, mut_rec x p q v m y ht hm hz e1 e2 g4⟩
    · obtain ⟨y, q, g1, g2, g3, g4⟩ := leaf (p + 1) (by omega) (.inr ⟨h0, rfl, v, by omega, e1⟩)
      exact ⟨y, q, by omega, g2, g3, g4⟩
end Go.Proofs.YteeepenncddnjaaDoor
end
