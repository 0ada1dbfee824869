/- Two forms are the same if and only if their printed texts are, where both are valid. For every input the law FnFormSame returns true, and leaves its input alone, where the table of powers of ten is laid. -/
import Derived.Below
import Derived.ChangeOld
import Derived.JoinedOf
import Derived.KernelRfl
import Derived.LaidMore
import Derived.OpenShut
import Derived.ProofKit
import Derived.RowKit3
import Derived.SevenTiedAt
import Derived.ShutString
import Derived.SizedLaws
import Derived.Test.YteeepenncddnjaaDoorCards
import Derived.Test.YteeepenncddnjaaDoorRows
import Derived.Test.YteeepenncddnjaaDoorTie
import Derived.WalkKit
import Derived.Test.YteeepenncddnjaaDoorKe1
import Derived.Test.YteeepenncddnjaaDoorKe3
section
namespace Go.Proofs.YteeepenncddnjaaDoor
open Go.RowKit Go.Proofs.YteeepenncddnjaaDoorW.PrintWords Go.Proofs.YteeepenncddnjaaDoorW.PrintLast Go.Proofs.YteeepenncddnjaaDoorW.PrintMore
set_option linter.unusedVariables false
set_option linter.unusedSimpArgs false
set_option maxHeartbeats 4000000 in
set_option maxRecDepth 100000 in
theorem fnFormSame_walk (A0 : Option Addr) (c0 : Nat) (l0 : List Int) (w : World)
    (hr0 : (Kd.int .u8).C w A0 l0.length l0) (hc0 : l0.length ≤ c0) (y0 : l0.length * 1 ≤ 140737488351232) (hw0 : ∀ n ∈ l0, (Lit.int .u8 n).wf = true) (htab : TabP w) :
    Calls Tryd.prog 3 #[.slice A0 l0.length c0] w fun e w' => e = .returned (.bool true) ∧ Below w.heap.size w w' := by
  by_cases g0 : l0.length ≤ 1048576
  rotate_left
  · have t0 : decide ((l0.length : Int) > 1048576) = true := decide_eq_true (by omega)
    have t0' : decide (1048576 < l0.length) = true := decide_eq_true (by omega)
    go_enter Tryd.func3, Tryd.ntmps3
    go_wp2_with fail
    go_ret
    exact ⟨rfl, Below.refl _ _⟩
  obtain ⟨x, y, hx, hy, D0⟩ := drawFS l0 (fun z hz => byteOk (hw0 z hz))
  replace D0 := Lib.hid D0
  have HTB := Lib.hid (fun W (hb : Below w.heap.size w W) => htab.below hb)
  clear htab
  obtain ⟨t, ht⟩ : ∃ t, eqB x y = t := ⟨_, rfl⟩
  obtain ⟨s, hs⟩ : ∃ s, fmtT x = s := ⟨_, rfl⟩
  obtain ⟨u, hu⟩ : ∃ u, fmtT y = u := ⟨_, rfl⟩
  have HT := Lib.hid ht
  have HT2 := Lib.hid ((eqB_comm y x).trans ht)
  have HFX := Lib.hid hs
  have HFY := Lib.hid hu
  have n1 : (t != t) = false := by cases t <;> rfl
  clear ht hs hu
  have t0 : decide ((l0.length : Int) > 1048576) = false := decide_eq_false (by omega)
  have t0' : decide (1048576 < l0.length) = false := decide_eq_false (by omega)
  go_enter Tryd.func3, Tryd.ntmps3
  go_wp2_with fail
  refine (D0.out A0 c0 _ hr0 hc0).mono ?_
  rintro e w1 ⟨X_3, X_c3, X_4, X_c4, Y_3, Y_c3, Y_4, Y_c4, rfl, i, j, b⟩
  have I := Lib.hid i
  clear i
  have J := Lib.hid j
  clear j
  have BW := Lib.hid b
  clear b
  have Ix := Lib.hid I.out
  clear I
  have Iy := Lib.hid J.out
  clear J
  go_wp2_with fail
  obtain ⟨k, k', b⟩ := two_new (Below.refl ((w1.alloc (.cells #[.int .i64 x.f0, .string x.f1, .int .i64 x.f2, .slice X_3 x.f3.length X_c3, .slice X_4 x.f4.length X_c4] 26)).alloc (.cells #[.int .i64 y.f0, .string y.f1, .int .i64 y.f2, .slice Y_3 y.f3.length Y_c3, .slice Y_4 y.f4.length Y_c4] 26)).heap.size ((w1.alloc (.cells #[.int .i64 x.f0, .string x.f1, .int .i64 x.f2, .slice X_3 x.f3.length X_c3, .slice X_4 x.f4.length X_c4] 26)).alloc (.cells #[.int .i64 y.f0, .string y.f1, .int .i64 y.f2, .slice Y_3 y.f3.length Y_c3, .slice Y_4 y.f4.length Y_c4] 26)))
  replace Ix := Lib.hid (Ix.out.below b)
  replace Iy := Lib.hid (Iy.out.below b)
  replace BW := Lib.hid (below_step BW.out b)
  clear b
  have Kx := Lib.hid k
  clear k
  have Ky := Lib.hid k'
  clear k'
  generalize ((w1.alloc (.cells #[.int .i64 x.f0, .string x.f1, .int .i64 x.f2, .slice X_3 x.f3.length X_c3, .slice X_4 x.f4.length X_c4] 26)).alloc (.cells #[.int .i64 y.f0, .string y.f1, .int .i64 y.f2, .slice Y_3 y.f3.length Y_c3, .slice Y_4 y.f4.length Y_c4] 26)) = ws1 at Kx Ky Ix Iy BW ⊢
  refine (sameI HT.out _ _ _ _ _ _ _ _ _ Ix.out Iy.out).mono ?_
  rintro e w2 ⟨rfl, b⟩
  replace Kx := Lib.hid (blk_below Kx.out b)
  replace Ky := Lib.hid (blk_below Ky.out b)
  replace Ix := Lib.hid (Ix.out.below b)
  replace Iy := Lib.hid (Iy.out.below b)
  replace BW := Lib.hid (below_step BW.out b)
  clear b
  obtain ⟨p0, p1, p2, p3, p4⟩ := fm_cells Kx.out
  obtain ⟨q0, q1, q2, q3, q4⟩ := fm_cells Ky.out
  go_wp2_with fail
  clear p0 p1 p2 p3 p4 q0 q1 q2 q3 q4
  refine (sameS HT.out _ _ _ _ _ _ _ _ _ Ix.out Iy.out).mono ?_
  rintro e w3 ⟨rfl, b⟩
  replace Kx := Lib.hid (blk_below Kx.out b)
  replace Ky := Lib.hid (blk_below Ky.out b)
  replace Ix := Lib.hid (Ix.out.below b)
  replace Iy := Lib.hid (Iy.out.below b)
  replace BW := Lib.hid (below_step BW.out b)
  clear b
  obtain ⟨p0, p1, p2, p3, p4⟩ := fm_cells Kx.out
  obtain ⟨q0, q1, q2, q3, q4⟩ := fm_cells Ky.out
  go_wp2_with fail
  clear p0 p1 p2 p3 p4 q0 q1 q2 q3 q4
  refine (sameI HT2.out _ _ _ _ _ _ _ _ _ Iy.out Ix.out).mono ?_
  rintro e w4 ⟨rfl, b⟩
  replace Kx := Lib.hid (blk_below Kx.out b)
  replace Ky := Lib.hid (blk_below Ky.out b)
  replace Ix := Lib.hid (Ix.out.below b)
  replace Iy := Lib.hid (Iy.out.below b)
  replace BW := Lib.hid (below_step BW.out b)
  clear b
  obtain ⟨p0, p1, p2, p3, p4⟩ := fm_cells Kx.out
  obtain ⟨q0, q1, q2, q3, q4⟩ := fm_cells Ky.out
  go_wp2_with fail
  clear p0 p1 p2 p3 p4 q0 q1 q2 q3 q4
  refine (sameT x _ _ _ _ _ _ _ _ _ Ix.out Ix.out).mono ?_
  rintro e w5 ⟨rfl, b⟩
  replace Kx := Lib.hid (blk_below Kx.out b)
  replace Ky := Lib.hid (blk_below Ky.out b)
  replace Ix := Lib.hid (Ix.out.below b)
  replace Iy := Lib.hid (Iy.out.below b)
  replace BW := Lib.hid (below_step BW.out b)
  clear b
  obtain ⟨p0, p1, p2, p3, p4⟩ := fm_cells Kx.out
  obtain ⟨q0, q1, q2, q3, q4⟩ := fm_cells Ky.out
  go_wp2_with fail
  clear p0 p1 p2 p3 p4 q0 q1 q2 q3 q4
  rcases ok_cases x with ⟨hfx, hvx⟩ | ⟨hfx, hvx⟩
  · rcases ok_cases y with ⟨hfy, hvy⟩ | ⟨hfy, hvy⟩
    · have HQ := Lib.hid (fmt_eq hfx hfy HFX.out HFY.out)
      clear hfx hfy
      rcases t with _ | _
      · have hq : (s.toList == u.toList) = false := HQ.out.trans HT.out
        have b := below_drew (Below.refl w5.heap.size w5)
        replace Kx := Lib.hid (blk_below Kx.out b)
        replace Ky := Lib.hid (blk_below Ky.out b)
        replace Ix := Lib.hid (Ix.out.below b)
        replace Iy := Lib.hid (Iy.out.below b)
        replace BW := Lib.hid (below_step BW.out b)
        clear b
        obtain ⟨p0, p1, p2, p3, p4⟩ := fm_cells Kx.out
        obtain ⟨q0, q1, q2, q3, q4⟩ := fm_cells Ky.out
        refine start_ (n := 18) (S := (fun W : World => W.cell? ⟨w1.heap.size, 0, none⟩ = some (.int .i64 x.f0) ∧ W.cell? ⟨w1.heap.size, 1, none⟩ = some (.string x.f1) ∧ W.cell? ⟨w1.heap.size, 2, none⟩ = some (.int .i64 x.f2) ∧ W.cell? ⟨w1.heap.size, 3, none⟩ = some (.slice X_3 x.f3.length X_c3) ∧ W.cell? ⟨w1.heap.size, 4, none⟩ = some (.slice X_4 x.f4.length X_c4) ∧ W.cell? ⟨(w1.heap.size + 1), 0, none⟩ = some (.int .i64 y.f0) ∧ W.cell? ⟨(w1.heap.size + 1), 1, none⟩ = some (.string y.f1) ∧ W.cell? ⟨(w1.heap.size + 1), 2, none⟩ = some (.int .i64 y.f2) ∧ W.cell? ⟨(w1.heap.size + 1), 3, none⟩ = some (.slice Y_3 y.f3.length Y_c3) ∧ W.cell? ⟨(w1.heap.size + 1), 4, none⟩ = some (.slice Y_4 y.f4.length Y_c4))) (ds := []) #[false, false, false, false, false, false, false, false, false, false, false, false, false, false, false, false, false, false] (by kernel_rfl) rfl rfl ⟨p0, p1, p2, p3, p4, q0, q1, q2, q3, q4⟩ (fun hHeld => ?_)
        generalize World.drew _ = wd at Kx Ky Ix Iy BW hHeld ⊢
        clear p0 p1 p2 p3 p4 q0 q1 q2 q3 q4
        refine take_ (i := 0) (N := some 35) (v := ?_) (a' := ?_) #[true, false, false, false, false, false, false, false, false, false, false, false, false, false, false, false, false, false] rfl rfl (by kernel_rfl) (fun _ _ _ h => h) (Or.inl ⟨by rfl, ?_⟩) hHeld ?_ ?_
        rotate_left
        · rintro w' ⟨s0, s1, s2, s3, s4, s5, s6, s7, s8, s9⟩
          go_simp
          with_reducible rfl
        rotate_left
        · simp only [Act.put, List.setIfInBounds_toArray, List.set_cons_zero, List.set_cons_succ, i64_w, i32_w]
          rfl
        refine one_ (i := 1) (N := some 36) #[true, true, false, false, false, false, false, false, false, false, false, false, false, false, false, false, false, false] rfl rfl (by kernel_rfl) (by decide) (fun K hK => ?_)
        refine goes_ Tryd.func11 (by kernel_rfl) rfl #[.agg #[.int .i64 x.f0, .string x.f1, .int .i64 x.f2, .slice X_3 x.f3.length X_c3, .slice X_4 x.f4.length X_c4]] (by rfl) rfl rfl (by (try simp only [List.map_toArray, List.map_cons, List.map_nil]); first | done | rfl) ?_
        refine (implValid' hvx _ _ _ _ _ Ix.out (by omega)).mono ?_
        rintro e w6 ⟨rfl, b⟩
        replace Kx := Lib.hid (blk_below Kx.out b)
        replace Ky := Lib.hid (blk_below Ky.out b)
        replace Ix := Lib.hid (Ix.out.below b)
        replace Iy := Lib.hid (Iy.out.below b)
        replace BW := Lib.hid (below_step BW.out b)
        clear b
        refine ⟨_, rfl, ?_⟩
        obtain ⟨p0, p1, p2, p3, p4⟩ := fm_cells Kx.out
        obtain ⟨q0, q1, q2, q3, q4⟩ := fm_cells Ky.out
        refine hK.out _ _ ⟨p0, p1, p2, p3, p4, q0, q1, q2, q3, q4⟩ (fun hHeld => ?_)
        clear hK K
        refine norm_ (a' := ?_) ?_ ?_
        rotate_left
        · show Act.put _ (some 36) _ = _
          simp only [Act.put, List.setIfInBounds_toArray, List.set_cons_zero, List.set_cons_succ, i64_w, i32_w]
          rfl
        clear p0 p1 p2 p3 p4 q0 q1 q2 q3 q4
        refine pure_ (i := 2) (N := some 37) (v := ?_) (a' := ?_) #[true, true, true, false, false, false, false, false, false, false, false, false, false, false, false, false, false, false] rfl rfl (by kernel_rfl) (fun _ _ _ h => h) (Or.inl ⟨by rfl, ?_⟩) ?_ ?_
        rotate_left
        · intro w'
          go_simp
          with_reducible rfl
        rotate_left
        · simp only [Act.put, List.setIfInBounds_toArray, List.set_cons_zero, List.set_cons_succ, i64_w, i32_w]
          rfl
        refine pure_ (i := 3) (N := some 38) (v := ?_) (a' := ?_) #[true, true, true, true, false, false, false, false, false, false, false, false, false, false, false, false, false, false] rfl rfl (by kernel_rfl) (fun _ _ _ h => h) (Or.inl ⟨by rfl, ?_⟩) ?_ ?_
        rotate_left
        · intro w'
          go_simp
          with_reducible rfl
        rotate_left
        · simp only [Act.put, List.setIfInBounds_toArray, List.set_cons_zero, List.set_cons_succ, i64_w, i32_w]
          rfl
        refine take_ (i := 4) (N := some 39) (v := ?_) (a' := ?_) #[true, true, true, true, true, false, false, false, false, false, false, false, false, false, false, false, false, false] rfl rfl (by kernel_rfl) (fun _ _ _ h => h) (Or.inl ⟨by rfl, ?_⟩) hHeld ?_ ?_
        rotate_left
        · rintro w' ⟨s0, s1, s2, s3, s4, s5, s6, s7, s8, s9⟩
          go_simp
          with_reducible rfl
        rotate_left
        · simp only [Act.put, List.setIfInBounds_toArray, List.set_cons_zero, List.set_cons_succ, i64_w, i32_w]
          rfl
        refine one_ (i := 5) (N := some 40) #[true, true, true, true, true, true, false, false, false, false, false, false, false, false, false, false, false, false] rfl rfl (by kernel_rfl) (by decide) (fun K hK => ?_)
        refine goes_ Tryd.func11 (by kernel_rfl) rfl #[.agg #[.int .i64 y.f0, .string y.f1, .int .i64 y.f2, .slice Y_3 y.f3.length Y_c3, .slice Y_4 y.f4.length Y_c4]] (by rfl) rfl rfl (by (try simp only [List.map_toArray, List.map_cons, List.map_nil]); first | done | rfl) ?_
        refine (implValid' hvy _ _ _ _ _ Iy.out (by omega)).mono ?_
        rintro e w7 ⟨rfl, b⟩
        replace Kx := Lib.hid (blk_below Kx.out b)
        replace Ky := Lib.hid (blk_below Ky.out b)
        replace Ix := Lib.hid (Ix.out.below b)
        replace Iy := Lib.hid (Iy.out.below b)
        replace BW := Lib.hid (below_step BW.out b)
        clear b
        refine ⟨_, rfl, ?_⟩
        obtain ⟨p0, p1, p2, p3, p4⟩ := fm_cells Kx.out
        obtain ⟨q0, q1, q2, q3, q4⟩ := fm_cells Ky.out
        refine hK.out _ _ ⟨p0, p1, p2, p3, p4, q0, q1, q2, q3, q4⟩ (fun hHeld => ?_)
        clear hK K
        refine norm_ (a' := ?_) ?_ ?_
        rotate_left
        · show Act.put _ (some 40) _ = _
          simp only [Act.put, List.setIfInBounds_toArray, List.set_cons_zero, List.set_cons_succ, i64_w, i32_w]
          rfl
        clear p0 p1 p2 p3 p4 q0 q1 q2 q3 q4
        refine pure_ (i := 6) (N := some 41) (v := ?_) (a' := ?_) #[true, true, true, true, true, true, true, false, false, false, false, false, false, false, false, false, false, false] rfl rfl (by kernel_rfl) (fun _ _ _ h => h) (Or.inl ⟨by rfl, ?_⟩) ?_ ?_
        rotate_left
        · intro w'
          go_simp
          with_reducible rfl
        rotate_left
        · simp only [Act.put, List.setIfInBounds_toArray, List.set_cons_zero, List.set_cons_succ, i64_w, i32_w]
          rfl
        refine pure_ (i := 7) (N := some 42) (v := ?_) (a' := ?_) #[true, true, true, true, true, true, true, true, false, false, false, false, false, false, false, false, false, false] rfl rfl (by kernel_rfl) (fun _ _ _ h => h) (Or.inl ⟨by rfl, ?_⟩) ?_ ?_
        rotate_left
        · intro w'
          go_simp
          with_reducible rfl
        rotate_left
        · simp only [Act.put, List.setIfInBounds_toArray, List.set_cons_zero, List.set_cons_succ, i64_w, i32_w]
          rfl
        refine pure_ (i := 8) (N := some 43) (v := ?_) (a' := ?_) #[true, true, true, true, true, true, true, true, true, false, false, false, false, false, false, false, false, false] rfl rfl (by kernel_rfl) (fun _ _ _ h => h) (Or.inl ⟨by rfl, ?_⟩) ?_ ?_
        rotate_left
        · intro w'
          go_simp
          with_reducible rfl
        rotate_left
        · simp only [Act.put, List.setIfInBounds_toArray, List.set_cons_zero, List.set_cons_succ, i64_w, i32_w]
          rfl
        refine pure_ (i := 9) (N := some 44) (v := ?_) (a' := ?_) #[true, true, true, true, true, true, true, true, true, true, false, false, false, false, false, false, false, false] rfl rfl (by kernel_rfl) (fun _ _ _ h => h) (Or.inl ⟨by rfl, ?_⟩) ?_ ?_
        rotate_left
        · intro w'
          go_simp
          with_reducible rfl
        rotate_left
        · simp only [Act.put, List.setIfInBounds_toArray, List.set_cons_zero, List.set_cons_succ, i64_w, i32_w]
          rfl
        refine take_ (i := 10) (N := some 45) (v := ?_) (a' := ?_) #[true, true, true, true, true, true, true, true, true, true, true, false, false, false, false, false, false, false] rfl rfl (by kernel_rfl) (fun _ _ _ h => h) (Or.inl ⟨by rfl, ?_⟩) hHeld ?_ ?_
        rotate_left
        · rintro w' ⟨s0, s1, s2, s3, s4, s5, s6, s7, s8, s9⟩
          go_simp
          with_reducible rfl
        rotate_left
        · simp only [Act.put, List.setIfInBounds_toArray, List.set_cons_zero, List.set_cons_succ, i64_w, i32_w]
          rfl
        refine take_ (i := 12) (N := some 47) (v := ?_) (a' := ?_) #[true, true, true, true, true, true, true, true, true, true, true, false, true, false, false, false, false, false] rfl rfl (by kernel_rfl) (fun _ _ _ h => h) (Or.inl ⟨by rfl, ?_⟩) hHeld ?_ ?_
        rotate_left
        · rintro w' ⟨s0, s1, s2, s3, s4, s5, s6, s7, s8, s9⟩
          go_simp
          with_reducible rfl
        rotate_left
        · simp only [Act.put, List.setIfInBounds_toArray, List.set_cons_zero, List.set_cons_succ, i64_w, i32_w]
          rfl
        refine one_ (i := 11) (N := some 46) #[true, true, true, true, true, true, true, true, true, true, true, true, true, false, false, false, false, false] rfl rfl (by kernel_rfl) (by decide) (fun K hK => ?_)
        refine goes_ Tryd.func12 (by kernel_rfl) rfl #[.agg #[.int .i64 x.f0, .string x.f1, .int .i64 x.f2, .slice X_3 x.f3.length X_c3, .slice X_4 x.f4.length X_c4]] (by rfl) rfl rfl (by (try simp only [List.map_toArray, List.map_cons, List.map_nil]); first | done | rfl) ?_
        refine (implFmt' HFX.out _ _ _ _ _ Ix.out (by omega) (HTB.out _ BW.out)).mono ?_
        rintro e w8 ⟨rfl, b⟩
        replace Kx := Lib.hid (blk_below Kx.out b)
        replace Ky := Lib.hid (blk_below Ky.out b)
        replace Ix := Lib.hid (Ix.out.below b)
        replace Iy := Lib.hid (Iy.out.below b)
        replace BW := Lib.hid (below_step BW.out b)
        clear b
        refine ⟨_, rfl, ?_⟩
        obtain ⟨p0, p1, p2, p3, p4⟩ := fm_cells Kx.out
        obtain ⟨q0, q1, q2, q3, q4⟩ := fm_cells Ky.out
        refine hK.out _ _ ⟨p0, p1, p2, p3, p4, q0, q1, q2, q3, q4⟩ (fun hHeld => ?_)
        clear hK K
        refine norm_ (a' := ?_) ?_ ?_
        rotate_left
        · show Act.put _ (some 46) _ = _
          simp only [Act.put, List.setIfInBounds_toArray, List.set_cons_zero, List.set_cons_succ, i64_w, i32_w]
          rfl
        clear p0 p1 p2 p3 p4 q0 q1 q2 q3 q4
        refine one_ (i := 13) (N := some 48) #[true, true, true, true, true, true, true, true, true, true, true, true, true, true, false, false, false, false] rfl rfl (by kernel_rfl) (by decide) (fun K hK => ?_)
        refine goes_ Tryd.func12 (by kernel_rfl) rfl #[.agg #[.int .i64 y.f0, .string y.f1, .int .i64 y.f2, .slice Y_3 y.f3.length Y_c3, .slice Y_4 y.f4.length Y_c4]] (by rfl) rfl rfl (by (try simp only [List.map_toArray, List.map_cons, List.map_nil]); first | done | rfl) ?_
        refine (implFmt' HFY.out _ _ _ _ _ Iy.out (by omega) (HTB.out _ BW.out)).mono ?_
        rintro e w9 ⟨rfl, b⟩
        replace Kx := Lib.hid (blk_below Kx.out b)
        replace Ky := Lib.hid (blk_below Ky.out b)
        replace Ix := Lib.hid (Ix.out.below b)
        replace Iy := Lib.hid (Iy.out.below b)
        replace BW := Lib.hid (below_step BW.out b)
        clear b
        refine ⟨_, rfl, ?_⟩
        obtain ⟨p0, p1, p2, p3, p4⟩ := fm_cells Kx.out
        obtain ⟨q0, q1, q2, q3, q4⟩ := fm_cells Ky.out
        refine hK.out _ _ ⟨p0, p1, p2, p3, p4, q0, q1, q2, q3, q4⟩ (fun hHeld => ?_)
        clear hK K
        refine norm_ (a' := ?_) ?_ ?_
        rotate_left
        · show Act.put _ (some 48) _ = _
          simp only [Act.put, List.setIfInBounds_toArray, List.set_cons_zero, List.set_cons_succ, i64_w, i32_w]
          rfl
        clear p0 p1 p2 p3 p4 q0 q1 q2 q3 q4
        refine pure_ (i := 14) (N := some 49) (v := .bool false) (a' := ?_) #[true, true, true, true, true, true, true, true, true, true, true, true, true, true, true, false, false, false] rfl rfl (by kernel_rfl) (fun _ _ _ h => h) (Or.inl ⟨by rfl, ?_⟩) ?_ ?_
        · intro w'
          go_simp
          first | done | rfl | simp [hq]
        rotate_left
        · simp only [Act.put, List.setIfInBounds_toArray, List.set_cons_zero, List.set_cons_succ, i64_w, i32_w]
          rfl
        refine pure_ (i := 15) (N := some 50) (v := ?_) (a' := ?_) #[true, true, true, true, true, true, true, true, true, true, true, true, true, true, true, true, false, false] rfl rfl (by kernel_rfl) (fun _ _ _ h => h) (Or.inl ⟨by rfl, ?_⟩) ?_ ?_
        rotate_left
        · intro w'
          go_simp
          with_reducible rfl
        rotate_left
        · simp only [Act.put, List.setIfInBounds_toArray, List.set_cons_zero, List.set_cons_succ, i64_w, i32_w]
          rfl
        refine pure_ (i := 16) (N := some 51) (v := ?_) (a' := ?_) #[true, true, true, true, true, true, true, true, true, true, true, true, true, true, true, true, true, false] rfl rfl (by kernel_rfl) (fun _ _ _ h => h) (Or.inl ⟨by rfl, ?_⟩) ?_ ?_
        rotate_left
        · intro w'
          go_simp
          with_reducible rfl
        rotate_left
        · simp only [Act.put, List.setIfInBounds_toArray, List.set_cons_zero, List.set_cons_succ, i64_w, i32_w]
          rfl
        refine pure_ (i := 17) (N := some 2) (v := ?_) (a' := ?_) #[true, true, true, true, true, true, true, true, true, true, true, true, true, true, true, true, true, true] rfl rfl (by kernel_rfl) (fun _ _ _ h => h) (Or.inl ⟨by rfl, ?_⟩) ?_ ?_
        rotate_left
        · intro w'
          go_simp
          with_reducible rfl
        rotate_left
        · simp only [Act.put, List.setIfInBounds_toArray, List.set_cons_zero, List.set_cons_succ, i64_w, i32_w]
          rfl
        refine done_ (by kernel_rfl) ?_
        go_wp2_with fail
        go_ret
        exact ⟨rfl, by repeat (first | exact BW.out | refine below_alloc ?_ _)⟩
      · have hq : (s.toList == u.toList) = true := HQ.out.trans HT.out
        have b := below_drew (Below.refl w5.heap.size w5)
        replace Kx := Lib.hid (blk_below Kx.out b)
        replace Ky := Lib.hid (blk_below Ky.out b)
        replace Ix := Lib.hid (Ix.out.below b)
        replace Iy := Lib.hid (Iy.out.below b)
        replace BW := Lib.hid (below_step BW.out b)
        clear b
        obtain ⟨p0, p1, p2, p3, p4⟩ := fm_cells Kx.out
        obtain ⟨q0, q1, q2, q3, q4⟩ := fm_cells Ky.out
        refine start_ (n := 18) (S := (fun W : World => W.cell? ⟨w1.heap.size, 0, none⟩ = some (.int .i64 x.f0) ∧ W.cell? ⟨w1.heap.size, 1, none⟩ = some (.string x.f1) ∧ W.cell? ⟨w1.heap.size, 2, none⟩ = some (.int .i64 x.f2) ∧ W.cell? ⟨w1.heap.size, 3, none⟩ = some (.slice X_3 x.f3.length X_c3) ∧ W.cell? ⟨w1.heap.size, 4, none⟩ = some (.slice X_4 x.f4.length X_c4) ∧ W.cell? ⟨(w1.heap.size + 1), 0, none⟩ = some (.int .i64 y.f0) ∧ W.cell? ⟨(w1.heap.size + 1), 1, none⟩ = some (.string y.f1) ∧ W.cell? ⟨(w1.heap.size + 1), 2, none⟩ = some (.int .i64 y.f2) ∧ W.cell? ⟨(w1.heap.size + 1), 3, none⟩ = some (.slice Y_3 y.f3.length Y_c3) ∧ W.cell? ⟨(w1.heap.size + 1), 4, none⟩ = some (.slice Y_4 y.f4.length Y_c4))) (ds := []) #[false, false, false, false, false, false, false, false, false, false, false, false, false, false, false, false, false, false] (by kernel_rfl) rfl rfl ⟨p0, p1, p2, p3, p4, q0, q1, q2, q3, q4⟩ (fun hHeld => ?_)
        generalize World.drew _ = wd at Kx Ky Ix Iy BW hHeld ⊢
        clear p0 p1 p2 p3 p4 q0 q1 q2 q3 q4
        refine take_ (i := 0) (N := some 35) (v := ?_) (a' := ?_) #[true, false, false, false, false, false, false, false, false, false, false, false, false, false, false, false, false, false] rfl rfl (by kernel_rfl) (fun _ _ _ h => h) (Or.inl ⟨by rfl, ?_⟩) hHeld ?_ ?_
        rotate_left
        · rintro w' ⟨s0, s1, s2, s3, s4, s5, s6, s7, s8, s9⟩
          go_simp
          with_reducible rfl
        rotate_left
        · simp only [Act.put, List.setIfInBounds_toArray, List.set_cons_zero, List.set_cons_succ, i64_w, i32_w]
          rfl
        refine one_ (i := 1) (N := some 36) #[true, true, false, false, false, false, false, false, false, false, false, false, false, false, false, false, false, false] rfl rfl (by kernel_rfl) (by decide) (fun K hK => ?_)
        refine goes_ Tryd.func11 (by kernel_rfl) rfl #[.agg #[.int .i64 x.f0, .string x.f1, .int .i64 x.f2, .slice X_3 x.f3.length X_c3, .slice X_4 x.f4.length X_c4]] (by rfl) rfl rfl (by (try simp only [List.map_toArray, List.map_cons, List.map_nil]); first | done | rfl) ?_
        refine (implValid' hvx _ _ _ _ _ Ix.out (by omega)).mono ?_
        rintro e w6 ⟨rfl, b⟩
        replace Kx := Lib.hid (blk_below Kx.out b)
        replace Ky := Lib.hid (blk_below Ky.out b)
        replace Ix := Lib.hid (Ix.out.below b)
        replace Iy := Lib.hid (Iy.out.below b)
        replace BW := Lib.hid (below_step BW.out b)
        clear b
        refine ⟨_, rfl, ?_⟩
        obtain ⟨p0, p1, p2, p3, p4⟩ := fm_cells Kx.out
        obtain ⟨q0, q1, q2, q3, q4⟩ := fm_cells Ky.out
        refine hK.out _ _ ⟨p0, p1, p2, p3, p4, q0, q1, q2, q3, q4⟩ (fun hHeld => ?_)
        clear hK K
        refine norm_ (a' := ?_) ?_ ?_
        rotate_left
        · show Act.put _ (some 36) _ = _
          simp only [Act.put, List.setIfInBounds_toArray, List.set_cons_zero, List.set_cons_succ, i64_w, i32_w]
          rfl
        clear p0 p1 p2 p3 p4 q0 q1 q2 q3 q4
        refine pure_ (i := 2) (N := some 37) (v := ?_) (a' := ?_) #[true, true, true, false, false, false, false, false, false, false, false, false, false, false, false, false, false, false] rfl rfl (by kernel_rfl) (fun _ _ _ h => h) (Or.inl ⟨by rfl, ?_⟩) ?_ ?_
        rotate_left
        · intro w'
          go_simp
          with_reducible rfl
        rotate_left
        · simp only [Act.put, List.setIfInBounds_toArray, List.set_cons_zero, List.set_cons_succ, i64_w, i32_w]
          rfl
        refine pure_ (i := 3) (N := some 38) (v := ?_) (a' := ?_) #[true, true, true, true, false, false, false, false, false, false, false, false, false, false, false, false, false, false] rfl rfl (by kernel_rfl) (fun _ _ _ h => h) (Or.inl ⟨by rfl, ?_⟩) ?_ ?_
        rotate_left
        · intro w'
          go_simp
          with_reducible rfl
        rotate_left
        · simp only [Act.put, List.setIfInBounds_toArray, List.set_cons_zero, List.set_cons_succ, i64_w, i32_w]
          rfl
        refine take_ (i := 4) (N := some 39) (v := ?_) (a' := ?_) #[true, true, true, true, true, false, false, false, false, false, false, false, false, false, false, false, false, false] rfl rfl (by kernel_rfl) (fun _ _ _ h => h) (Or.inl ⟨by rfl, ?_⟩) hHeld ?_ ?_
        rotate_left
        · rintro w' ⟨s0, s1, s2, s3, s4, s5, s6, s7, s8, s9⟩
          go_simp
          with_reducible rfl
        rotate_left
        · simp only [Act.put, List.setIfInBounds_toArray, List.set_cons_zero, List.set_cons_succ, i64_w, i32_w]
          rfl
        refine one_ (i := 5) (N := some 40) #[true, true, true, true, true, true, false, false, false, false, false, false, false, false, false, false, false, false] rfl rfl (by kernel_rfl) (by decide) (fun K hK => ?_)
        refine goes_ Tryd.func11 (by kernel_rfl) rfl #[.agg #[.int .i64 y.f0, .string y.f1, .int .i64 y.f2, .slice Y_3 y.f3.length Y_c3, .slice Y_4 y.f4.length Y_c4]] (by rfl) rfl rfl (by (try simp only [List.map_toArray, List.map_cons, List.map_nil]); first | done | rfl) ?_
        refine (implValid' hvy _ _ _ _ _ Iy.out (by omega)).mono ?_
        rintro e w7 ⟨rfl, b⟩
        replace Kx := Lib.hid (blk_below Kx.out b)
        replace Ky := Lib.hid (blk_below Ky.out b)
        replace Ix := Lib.hid (Ix.out.below b)
        replace Iy := Lib.hid (Iy.out.below b)
        replace BW := Lib.hid (below_step BW.out b)
        clear b
        refine ⟨_, rfl, ?_⟩
        obtain ⟨p0, p1, p2, p3, p4⟩ := fm_cells Kx.out
        obtain ⟨q0, q1, q2, q3, q4⟩ := fm_cells Ky.out
        refine hK.out _ _ ⟨p0, p1, p2, p3, p4, q0, q1, q2, q3, q4⟩ (fun hHeld => ?_)
        clear hK K
        refine norm_ (a' := ?_) ?_ ?_
        rotate_left
        · show Act.put _ (some 40) _ = _
          simp only [Act.put, List.setIfInBounds_toArray, List.set_cons_zero, List.set_cons_succ, i64_w, i32_w]
          rfl
        clear p0 p1 p2 p3 p4 q0 q1 q2 q3 q4
        refine pure_ (i := 6) (N := some 41) (v := ?_) (a' := ?_) #[true, true, true, true, true, true, true, false, false, false, false, false, false, false, false, false, false, false] rfl rfl (by kernel_rfl) (fun _ _ _ h => h) (Or.inl ⟨by rfl, ?_⟩) ?_ ?_
        rotate_left
        · intro w'
          go_simp
          with_reducible rfl
        rotate_left
        · simp only [Act.put, List.setIfInBounds_toArray, List.set_cons_zero, List.set_cons_succ, i64_w, i32_w]
          rfl
        refine pure_ (i := 7) (N := some 42) (v := ?_) (a' := ?_) #[true, true, true, true, true, true, true, true, false, false, false, false, false, false, false, false, false, false] rfl rfl (by kernel_rfl) (fun _ _ _ h => h) (Or.inl ⟨by rfl, ?_⟩) ?_ ?_
        rotate_left
        · intro w'
          go_simp
          with_reducible rfl
        rotate_left
        · simp only [Act.put, List.setIfInBounds_toArray, List.set_cons_zero, List.set_cons_succ, i64_w, i32_w]
          rfl
        refine pure_ (i := 8) (N := some 43) (v := ?_) (a' := ?_) #[true, true, true, true, true, true, true, true, true, false, false, false, false, false, false, false, false, false] rfl rfl (by kernel_rfl) (fun _ _ _ h => h) (Or.inl ⟨by rfl, ?_⟩) ?_ ?_
        rotate_left
        · intro w'
          go_simp
          with_reducible rfl
        rotate_left
        · simp only [Act.put, List.setIfInBounds_toArray, List.set_cons_zero, List.set_cons_succ, i64_w, i32_w]
          rfl
        refine pure_ (i := 9) (N := some 44) (v := ?_) (a' := ?_) #[true, true, true, true, true, true, true, true, true, true, false, false, false, false, false, false, false, false] rfl rfl (by kernel_rfl) (fun _ _ _ h => h) (Or.inl ⟨by rfl, ?_⟩) ?_ ?_
        rotate_left
        · intro w'
          go_simp
          with_reducible rfl
        rotate_left
        · simp only [Act.put, List.setIfInBounds_toArray, List.set_cons_zero, List.set_cons_succ, i64_w, i32_w]
          rfl
        refine take_ (i := 10) (N := some 45) (v := ?_) (a' := ?_) #[true, true, true, true, true, true, true, true, true, true, true, false, false, false, false, false, false, false] rfl rfl (by kernel_rfl) (fun _ _ _ h => h) (Or.inl ⟨by rfl, ?_⟩) hHeld ?_ ?_
        rotate_left
        · rintro w' ⟨s0, s1, s2, s3, s4, s5, s6, s7, s8, s9⟩
          go_simp
          with_reducible rfl
        rotate_left
        · simp only [Act.put, List.setIfInBounds_toArray, List.set_cons_zero, List.set_cons_succ, i64_w, i32_w]
          rfl
        refine take_ (i := 12) (N := some 47) (v := ?_) (a' := ?_) #[true, true, true, true, true, true, true, true, true, true, true, false, true, false, false, false, false, false] rfl rfl (by kernel_rfl) (fun _ _ _ h => h) (Or.inl ⟨by rfl, ?_⟩) hHeld ?_ ?_
        rotate_left
        · rintro w' ⟨s0, s1, s2, s3, s4, s5, s6, s7, s8, s9⟩
          go_simp
          with_reducible rfl
        rotate_left
        · simp only [Act.put, List.setIfInBounds_toArray, List.set_cons_zero, List.set_cons_succ, i64_w, i32_w]
          rfl
        refine one_ (i := 11) (N := some 46) #[true, true, true, true, true, true, true, true, true, true, true, true, true, false, false, false, false, false] rfl rfl (by kernel_rfl) (by decide) (fun K hK => ?_)
        refine goes_ Tryd.func12 (by kernel_rfl) rfl #[.agg #[.int .i64 x.f0, .string x.f1, .int .i64 x.f2, .slice X_3 x.f3.length X_c3, .slice X_4 x.f4.length X_c4]] (by rfl) rfl rfl (by (try simp only [List.map_toArray, List.map_cons, List.map_nil]); first | done | rfl) ?_
        refine (implFmt' HFX.out _ _ _ _ _ Ix.out (by omega) (HTB.out _ BW.out)).mono ?_
        rintro e w8 ⟨rfl, b⟩
        replace Kx := Lib.hid (blk_below Kx.out b)
        replace Ky := Lib.hid (blk_below Ky.out b)
        replace Ix := Lib.hid (Ix.out.below b)
        replace Iy := Lib.hid (Iy.out.below b)
        replace BW := Lib.hid (below_step BW.out b)
        clear b
        refine ⟨_, rfl, ?_⟩
        obtain ⟨p0, p1, p2, p3, p4⟩ := fm_cells Kx.out
        obtain ⟨q0, q1, q2, q3, q4⟩ := fm_cells Ky.out
        refine hK.out _ _ ⟨p0, p1, p2, p3, p4, q0, q1, q2, q3, q4⟩ (fun hHeld => ?_)
        clear hK K
        refine norm_ (a' := ?_) ?_ ?_
        rotate_left
        · show Act.put _ (some 46) _ = _
          simp only [Act.put, List.setIfInBounds_toArray, List.set_cons_zero, List.set_cons_succ, i64_w, i32_w]
          rfl
        clear p0 p1 p2 p3 p4 q0 q1 q2 q3 q4
        refine one_ (i := 13) (N := some 48) #[true, true, true, true, true, true, true, true, true, true, true, true, true, true, false, false, false, false] rfl rfl (by kernel_rfl) (by decide) (fun K hK => ?_)
        refine goes_ Tryd.func12 (by kernel_rfl) rfl #[.agg #[.int .i64 y.f0, .string y.f1, .int .i64 y.f2, .slice Y_3 y.f3.length Y_c3, .slice Y_4 y.f4.length Y_c4]] (by rfl) rfl rfl (by (try simp only [List.map_toArray, List.map_cons, List.map_nil]); first | done | rfl) ?_
        refine (implFmt' HFY.out _ _ _ _ _ Iy.out (by omega) (HTB.out _ BW.out)).mono ?_
        rintro e w9 ⟨rfl, b⟩
        replace Kx := Lib.hid (blk_below Kx.out b)
        replace Ky := Lib.hid (blk_below Ky.out b)
        replace Ix := Lib.hid (Ix.out.below b)
        replace Iy := Lib.hid (Iy.out.below b)
        replace BW := Lib.hid (below_step BW.out b)
        clear b
        refine ⟨_, rfl, ?_⟩
        obtain ⟨p0, p1, p2, p3, p4⟩ := fm_cells Kx.out
        obtain ⟨q0, q1, q2, q3, q4⟩ := fm_cells Ky.out
        refine hK.out _ _ ⟨p0, p1, p2, p3, p4, q0, q1, q2, q3, q4⟩ (fun hHeld => ?_)
        clear hK K
        refine norm_ (a' := ?_) ?_ ?_
        rotate_left
        · show Act.put _ (some 48) _ = _
          simp only [Act.put, List.setIfInBounds_toArray, List.set_cons_zero, List.set_cons_succ, i64_w, i32_w]
          rfl
        clear p0 p1 p2 p3 p4 q0 q1 q2 q3 q4
        refine pure_ (i := 14) (N := some 49) (v := .bool true) (a' := ?_) #[true, true, true, true, true, true, true, true, true, true, true, true, true, true, true, false, false, false] rfl rfl (by kernel_rfl) (fun _ _ _ h => h) (Or.inl ⟨by rfl, ?_⟩) ?_ ?_
        · intro w'
          go_simp
          first | done | rfl | simp [hq]
        rotate_left
        · simp only [Act.put, List.setIfInBounds_toArray, List.set_cons_zero, List.set_cons_succ, i64_w, i32_w]
          rfl
        refine pure_ (i := 15) (N := some 50) (v := ?_) (a' := ?_) #[true, true, true, true, true, true, true, true, true, true, true, true, true, true, true, true, false, false] rfl rfl (by kernel_rfl) (fun _ _ _ h => h) (Or.inl ⟨by rfl, ?_⟩) ?_ ?_
        rotate_left
        · intro w'
          go_simp
          with_reducible rfl
        rotate_left
        · simp only [Act.put, List.setIfInBounds_toArray, List.set_cons_zero, List.set_cons_succ, i64_w, i32_w]
          rfl
        refine pure_ (i := 16) (N := some 51) (v := ?_) (a' := ?_) #[true, true, true, true, true, true, true, true, true, true, true, true, true, true, true, true, true, false] rfl rfl (by kernel_rfl) (fun _ _ _ h => h) (Or.inl ⟨by rfl, ?_⟩) ?_ ?_
        rotate_left
        · intro w'
          go_simp
          with_reducible rfl
        rotate_left
        · simp only [Act.put, List.setIfInBounds_toArray, List.set_cons_zero, List.set_cons_succ, i64_w, i32_w]
          rfl
        refine pure_ (i := 17) (N := some 2) (v := ?_) (a' := ?_) #[true, true, true, true, true, true, true, true, true, true, true, true, true, true, true, true, true, true] rfl rfl (by kernel_rfl) (fun _ _ _ h => h) (Or.inl ⟨by rfl, ?_⟩) ?_ ?_
        rotate_left
        · intro w'
          go_simp
          with_reducible rfl
        rotate_left
        · simp only [Act.put, List.setIfInBounds_toArray, List.set_cons_zero, List.set_cons_succ, i64_w, i32_w]
          rfl
        refine done_ (by kernel_rfl) ?_
        go_wp2_with fail
        go_ret
        exact ⟨rfl, by repeat (first | exact BW.out | refine below_alloc ?_ _)⟩
    · clear hfx hfy
      have b := below_drew (Below.refl w5.heap.size w5)
      replace Kx := Lib.hid (blk_below Kx.out b)
      replace Ky := Lib.hid (blk_below Ky.out b)
      replace Ix := Lib.hid (Ix.out.below b)
      replace Iy := Lib.hid (Iy.out.below b)
      replace BW := Lib.hid (below_step BW.out b)
      clear b
      obtain ⟨p0, p1, p2, p3, p4⟩ := fm_cells Kx.out
      obtain ⟨q0, q1, q2, q3, q4⟩ := fm_cells Ky.out
      refine start_ (n := 18) (S := (fun W : World => W.cell? ⟨w1.heap.size, 0, none⟩ = some (.int .i64 x.f0) ∧ W.cell? ⟨w1.heap.size, 1, none⟩ = some (.string x.f1) ∧ W.cell? ⟨w1.heap.size, 2, none⟩ = some (.int .i64 x.f2) ∧ W.cell? ⟨w1.heap.size, 3, none⟩ = some (.slice X_3 x.f3.length X_c3) ∧ W.cell? ⟨w1.heap.size, 4, none⟩ = some (.slice X_4 x.f4.length X_c4) ∧ W.cell? ⟨(w1.heap.size + 1), 0, none⟩ = some (.int .i64 y.f0) ∧ W.cell? ⟨(w1.heap.size + 1), 1, none⟩ = some (.string y.f1) ∧ W.cell? ⟨(w1.heap.size + 1), 2, none⟩ = some (.int .i64 y.f2) ∧ W.cell? ⟨(w1.heap.size + 1), 3, none⟩ = some (.slice Y_3 y.f3.length Y_c3) ∧ W.cell? ⟨(w1.heap.size + 1), 4, none⟩ = some (.slice Y_4 y.f4.length Y_c4))) (ds := []) #[false, false, false, false, false, false, false, false, false, false, false, false, false, false, false, false, false, false] (by kernel_rfl) rfl rfl ⟨p0, p1, p2, p3, p4, q0, q1, q2, q3, q4⟩ (fun hHeld => ?_)
      generalize World.drew _ = wd at Kx Ky Ix Iy BW hHeld ⊢
      clear p0 p1 p2 p3 p4 q0 q1 q2 q3 q4
      refine take_ (i := 0) (N := some 35) (v := ?_) (a' := ?_) #[true, false, false, false, false, false, false, false, false, false, false, false, false, false, false, false, false, false] rfl rfl (by kernel_rfl) (fun _ _ _ h => h) (Or.inl ⟨by rfl, ?_⟩) hHeld ?_ ?_
      rotate_left
      · rintro w' ⟨s0, s1, s2, s3, s4, s5, s6, s7, s8, s9⟩
        go_simp
        with_reducible rfl
      rotate_left
      · simp only [Act.put, List.setIfInBounds_toArray, List.set_cons_zero, List.set_cons_succ, i64_w, i32_w]
        rfl
      refine one_ (i := 1) (N := some 36) #[true, true, false, false, false, false, false, false, false, false, false, false, false, false, false, false, false, false] rfl rfl (by kernel_rfl) (by decide) (fun K hK => ?_)
      refine goes_ Tryd.func11 (by kernel_rfl) rfl #[.agg #[.int .i64 x.f0, .string x.f1, .int .i64 x.f2, .slice X_3 x.f3.length X_c3, .slice X_4 x.f4.length X_c4]] (by rfl) rfl rfl (by (try simp only [List.map_toArray, List.map_cons, List.map_nil]); first | done | rfl) ?_
      refine (implValid' hvx _ _ _ _ _ Ix.out (by omega)).mono ?_
      rintro e w6 ⟨rfl, b⟩
      replace Kx := Lib.hid (blk_below Kx.out b)
      replace Ky := Lib.hid (blk_below Ky.out b)
      replace Ix := Lib.hid (Ix.out.below b)
      replace Iy := Lib.hid (Iy.out.below b)
      replace BW := Lib.hid (below_step BW.out b)
      clear b
      refine ⟨_, rfl, ?_⟩
      obtain ⟨p0, p1, p2, p3, p4⟩ := fm_cells Kx.out
      obtain ⟨q0, q1, q2, q3, q4⟩ := fm_cells Ky.out
      refine hK.out _ _ ⟨p0, p1, p2, p3, p4, q0, q1, q2, q3, q4⟩ (fun hHeld => ?_)
      clear hK K
      refine norm_ (a' := ?_) ?_ ?_
      rotate_left
      · show Act.put _ (some 36) _ = _
        simp only [Act.put, List.setIfInBounds_toArray, List.set_cons_zero, List.set_cons_succ, i64_w, i32_w]
        rfl
      clear p0 p1 p2 p3 p4 q0 q1 q2 q3 q4
      refine pure_ (i := 2) (N := some 37) (v := ?_) (a' := ?_) #[true, true, true, false, false, false, false, false, false, false, false, false, false, false, false, false, false, false] rfl rfl (by kernel_rfl) (fun _ _ _ h => h) (Or.inl ⟨by rfl, ?_⟩) ?_ ?_
      rotate_left
      · intro w'
        go_simp
        with_reducible rfl
      rotate_left
      · simp only [Act.put, List.setIfInBounds_toArray, List.set_cons_zero, List.set_cons_succ, i64_w, i32_w]
        rfl
      refine pure_ (i := 3) (N := some 38) (v := ?_) (a' := ?_) #[true, true, true, true, false, false, false, false, false, false, false, false, false, false, false, false, false, false] rfl rfl (by kernel_rfl) (fun _ _ _ h => h) (Or.inl ⟨by rfl, ?_⟩) ?_ ?_
      rotate_left
      · intro w'
        go_simp
        with_reducible rfl
      rotate_left
      · simp only [Act.put, List.setIfInBounds_toArray, List.set_cons_zero, List.set_cons_succ, i64_w, i32_w]
        rfl
      refine take_ (i := 4) (N := some 39) (v := ?_) (a' := ?_) #[true, true, true, true, true, false, false, false, false, false, false, false, false, false, false, false, false, false] rfl rfl (by kernel_rfl) (fun _ _ _ h => h) (Or.inl ⟨by rfl, ?_⟩) hHeld ?_ ?_
      rotate_left
      · rintro w' ⟨s0, s1, s2, s3, s4, s5, s6, s7, s8, s9⟩
        go_simp
        with_reducible rfl
      rotate_left
      · simp only [Act.put, List.setIfInBounds_toArray, List.set_cons_zero, List.set_cons_succ, i64_w, i32_w]
        rfl
      refine one_ (i := 5) (N := some 40) #[true, true, true, true, true, true, false, false, false, false, false, false, false, false, false, false, false, false] rfl rfl (by kernel_rfl) (by decide) (fun K hK => ?_)
      refine goes_ Tryd.func11 (by kernel_rfl) rfl #[.agg #[.int .i64 y.f0, .string y.f1, .int .i64 y.f2, .slice Y_3 y.f3.length Y_c3, .slice Y_4 y.f4.length Y_c4]] (by rfl) rfl rfl (by (try simp only [List.map_toArray, List.map_cons, List.map_nil]); first | done | rfl) ?_
      refine (implValid' hvy _ _ _ _ _ Iy.out (by omega)).mono ?_
      rintro e w7 ⟨rfl, b⟩
      replace Kx := Lib.hid (blk_below Kx.out b)
      replace Ky := Lib.hid (blk_below Ky.out b)
      replace Ix := Lib.hid (Ix.out.below b)
      replace Iy := Lib.hid (Iy.out.below b)
      replace BW := Lib.hid (below_step BW.out b)
      clear b
      refine ⟨_, rfl, ?_⟩
      obtain ⟨p0, p1, p2, p3, p4⟩ := fm_cells Kx.out
      obtain ⟨q0, q1, q2, q3, q4⟩ := fm_cells Ky.out
      refine hK.out _ _ ⟨p0, p1, p2, p3, p4, q0, q1, q2, q3, q4⟩ (fun hHeld => ?_)
      clear hK K
      refine norm_ (a' := ?_) ?_ ?_
      rotate_left
      · show Act.put _ (some 40) _ = _
        simp only [Act.put, List.setIfInBounds_toArray, List.set_cons_zero, List.set_cons_succ, i64_w, i32_w]
        rfl
      clear p0 p1 p2 p3 p4 q0 q1 q2 q3 q4
      refine pure_ (i := 6) (N := some 41) (v := ?_) (a' := ?_) #[true, true, true, true, true, true, true, false, false, false, false, false, false, false, false, false, false, false] rfl rfl (by kernel_rfl) (fun _ _ _ h => h) (Or.inl ⟨by rfl, ?_⟩) ?_ ?_
      rotate_left
      · intro w'
        go_simp
        with_reducible rfl
      rotate_left
      · simp only [Act.put, List.setIfInBounds_toArray, List.set_cons_zero, List.set_cons_succ, i64_w, i32_w]
        rfl
      refine pure_ (i := 7) (N := some 42) (v := ?_) (a' := ?_) #[true, true, true, true, true, true, true, true, false, false, false, false, false, false, false, false, false, false] rfl rfl (by kernel_rfl) (fun _ _ _ h => h) (Or.inl ⟨by rfl, ?_⟩) ?_ ?_
      rotate_left
      · intro w'
        go_simp
        with_reducible rfl
      rotate_left
      · simp only [Act.put, List.setIfInBounds_toArray, List.set_cons_zero, List.set_cons_succ, i64_w, i32_w]
        rfl
      refine pure_ (i := 8) (N := some 43) (v := ?_) (a' := ?_) #[true, true, true, true, true, true, true, true, true, false, false, false, false, false, false, false, false, false] rfl rfl (by kernel_rfl) (fun _ _ _ h => h) (Or.inl ⟨by rfl, ?_⟩) ?_ ?_
      rotate_left
      · intro w'
        go_simp
        with_reducible rfl
      rotate_left
      · simp only [Act.put, List.setIfInBounds_toArray, List.set_cons_zero, List.set_cons_succ, i64_w, i32_w]
        rfl
      refine pure_ (i := 9) (N := some 44) (v := undef) (a' := ?_) #[true, true, true, true, true, true, true, true, true, true, false, false, false, false, false, false, false, false] rfl rfl (by kernel_rfl) (fun _ _ _ h => h) (Or.inr ⟨by rfl, rfl⟩) ?_ ?_
      rotate_left
      · simp only [Act.put, List.setIfInBounds_toArray, List.set_cons_zero, List.set_cons_succ, i64_w, i32_w]
        rfl
      refine pure_ (i := 10) (N := some 45) (v := undef) (a' := ?_) #[true, true, true, true, true, true, true, true, true, true, true, false, false, false, false, false, false, false] rfl rfl (by kernel_rfl) (fun _ _ _ h => h) (Or.inr ⟨by rfl, rfl⟩) ?_ ?_
      rotate_left
      · simp only [Act.put, List.setIfInBounds_toArray, List.set_cons_zero, List.set_cons_succ, i64_w, i32_w]
        rfl
      refine pure_ (i := 12) (N := some 47) (v := undef) (a' := ?_) #[true, true, true, true, true, true, true, true, true, true, true, false, true, false, false, false, false, false] rfl rfl (by kernel_rfl) (fun _ _ _ h => h) (Or.inr ⟨by rfl, rfl⟩) ?_ ?_
      rotate_left
      · simp only [Act.put, List.setIfInBounds_toArray, List.set_cons_zero, List.set_cons_succ, i64_w, i32_w]
        rfl
      refine one_ (i := 11) (N := some 46) #[true, true, true, true, true, true, true, true, true, true, true, true, true, false, false, false, false, false] rfl rfl (by kernel_rfl) (by decide) (fun K hK => ?_)
      refine off_ (by rfl) ?_
      obtain ⟨p0, p1, p2, p3, p4⟩ := fm_cells Kx.out
      obtain ⟨q0, q1, q2, q3, q4⟩ := fm_cells Ky.out
      refine hK.out _ _ ⟨p0, p1, p2, p3, p4, q0, q1, q2, q3, q4⟩ (fun hHeld => ?_)
      clear hK K
      refine norm_ (a' := ?_) ?_ ?_
      rotate_left
      · show Act.put _ (some 46) _ = _
        simp only [Act.put, List.setIfInBounds_toArray, List.set_cons_zero, List.set_cons_succ, i64_w, i32_w]
        rfl
      clear p0 p1 p2 p3 p4 q0 q1 q2 q3 q4
      refine one_ (i := 13) (N := some 48) #[true, true, true, true, true, true, true, true, true, true, true, true, true, true, false, false, false, false] rfl rfl (by kernel_rfl) (by decide) (fun K hK => ?_)
      refine off_ (by rfl) ?_
      obtain ⟨p0, p1, p2, p3, p4⟩ := fm_cells Kx.out
      obtain ⟨q0, q1, q2, q3, q4⟩ := fm_cells Ky.out
      refine hK.out _ _ ⟨p0, p1, p2, p3, p4, q0, q1, q2, q3, q4⟩ (fun hHeld => ?_)
      clear hK K
      refine norm_ (a' := ?_) ?_ ?_
      rotate_left
      · show Act.put _ (some 48) _ = _
        simp only [Act.put, List.setIfInBounds_toArray, List.set_cons_zero, List.set_cons_succ, i64_w, i32_w]
        rfl
      clear p0 p1 p2 p3 p4 q0 q1 q2 q3 q4
      refine pure_ (i := 14) (N := some 49) (v := undef) (a' := ?_) #[true, true, true, true, true, true, true, true, true, true, true, true, true, true, true, false, false, false] rfl rfl (by kernel_rfl) (fun _ _ _ h => h) (Or.inr ⟨by rfl, rfl⟩) ?_ ?_
      rotate_left
      · simp only [Act.put, List.setIfInBounds_toArray, List.set_cons_zero, List.set_cons_succ, i64_w, i32_w]
        rfl
      refine pure_ (i := 15) (N := some 50) (v := undef) (a' := ?_) #[true, true, true, true, true, true, true, true, true, true, true, true, true, true, true, true, false, false] rfl rfl (by kernel_rfl) (fun _ _ _ h => h) (Or.inr ⟨by rfl, rfl⟩) ?_ ?_
      rotate_left
      · simp only [Act.put, List.setIfInBounds_toArray, List.set_cons_zero, List.set_cons_succ, i64_w, i32_w]
        rfl
      refine pure_ (i := 16) (N := some 51) (v := ?_) (a' := ?_) #[true, true, true, true, true, true, true, true, true, true, true, true, true, true, true, true, true, false] rfl rfl (by kernel_rfl) (fun _ _ _ h => h) (Or.inl ⟨by rfl, ?_⟩) ?_ ?_
      rotate_left
      · intro w'
        go_simp
        with_reducible rfl
      rotate_left
      · simp only [Act.put, List.setIfInBounds_toArray, List.set_cons_zero, List.set_cons_succ, i64_w, i32_w]
        rfl
      refine pure_ (i := 17) (N := some 2) (v := ?_) (a' := ?_) #[true, true, true, true, true, true, true, true, true, true, true, true, true, true, true, true, true, true] rfl rfl (by kernel_rfl) (fun _ _ _ h => h) (Or.inl ⟨by rfl, ?_⟩) ?_ ?_
      rotate_left
      · intro w'
        go_simp
        with_reducible rfl
      rotate_left
      · simp only [Act.put, List.setIfInBounds_toArray, List.set_cons_zero, List.set_cons_succ, i64_w, i32_w]
        rfl
      refine done_ (by kernel_rfl) ?_
      go_wp2_with fail
      go_ret
      exact ⟨rfl, by repeat (first | exact BW.out | refine below_alloc ?_ _)⟩
  · clear hfx
    have b := below_drew (Below.refl w5.heap.size w5)
    replace Kx := Lib.hid (blk_below Kx.out b)
    replace Ky := Lib.hid (blk_below Ky.out b)
    replace Ix := Lib.hid (Ix.out.below b)
    replace Iy := Lib.hid (Iy.out.below b)
    replace BW := Lib.hid (below_step BW.out b)
    clear b
    obtain ⟨p0, p1, p2, p3, p4⟩ := fm_cells Kx.out
    obtain ⟨q0, q1, q2, q3, q4⟩ := fm_cells Ky.out
    refine start_ (n := 18) (S := (fun W : World => W.cell? ⟨w1.heap.size, 0, none⟩ = some (.int .i64 x.f0) ∧ W.cell? ⟨w1.heap.size, 1, none⟩ = some (.string x.f1) ∧ W.cell? ⟨w1.heap.size, 2, none⟩ = some (.int .i64 x.f2) ∧ W.cell? ⟨w1.heap.size, 3, none⟩ = some (.slice X_3 x.f3.length X_c3) ∧ W.cell? ⟨w1.heap.size, 4, none⟩ = some (.slice X_4 x.f4.length X_c4) ∧ W.cell? ⟨(w1.heap.size + 1), 0, none⟩ = some (.int .i64 y.f0) ∧ W.cell? ⟨(w1.heap.size + 1), 1, none⟩ = some (.string y.f1) ∧ W.cell? ⟨(w1.heap.size + 1), 2, none⟩ = some (.int .i64 y.f2) ∧ W.cell? ⟨(w1.heap.size + 1), 3, none⟩ = some (.slice Y_3 y.f3.length Y_c3) ∧ W.cell? ⟨(w1.heap.size + 1), 4, none⟩ = some (.slice Y_4 y.f4.length Y_c4))) (ds := []) #[false, false, false, false, false, false, false, false, false, false, false, false, false, false, false, false, false, false] (by kernel_rfl) rfl rfl ⟨p0, p1, p2, p3, p4, q0, q1, q2, q3, q4⟩ (fun hHeld => ?_)
    generalize World.drew _ = wd at Kx Ky Ix Iy BW hHeld ⊢
    clear p0 p1 p2 p3 p4 q0 q1 q2 q3 q4
    refine take_ (i := 0) (N := some 35) (v := ?_) (a' := ?_) #[true, false, false, false, false, false, false, false, false, false, false, false, false, false, false, false, false, false] rfl rfl (by kernel_rfl) (fun _ _ _ h => h) (Or.inl ⟨by rfl, ?_⟩) hHeld ?_ ?_
    rotate_left
    · rintro w' ⟨s0, s1, s2, s3, s4, s5, s6, s7, s8, s9⟩
      go_simp
      with_reducible rfl
    rotate_left
    · simp only [Act.put, List.setIfInBounds_toArray, List.set_cons_zero, List.set_cons_succ, i64_w, i32_w]
      rfl
    refine one_ (i := 1) (N := some 36) #[true, true, false, false, false, false, false, false, false, false, false, false, false, false, false, false, false, false] rfl rfl (by kernel_rfl) (by decide) (fun K hK => ?_)
    refine goes_ Tryd.func11 (by kernel_rfl) rfl #[.agg #[.int .i64 x.f0, .string x.f1, .int .i64 x.f2, .slice X_3 x.f3.length X_c3, .slice X_4 x.f4.length X_c4]] (by rfl) rfl rfl (by (try simp only [List.map_toArray, List.map_cons, List.map_nil]); first | done | rfl) ?_
    refine (implValid' hvx _ _ _ _ _ Ix.out (by omega)).mono ?_
    rintro e w6 ⟨rfl, b⟩
    replace Kx := Lib.hid (blk_below Kx.out b)
    replace Ky := Lib.hid (blk_below Ky.out b)
    replace Ix := Lib.hid (Ix.out.below b)
    replace Iy := Lib.hid (Iy.out.below b)
    replace BW := Lib.hid (below_step BW.out b)
    clear b
    refine ⟨_, rfl, ?_⟩
    obtain ⟨p0, p1, p2, p3, p4⟩ := fm_cells Kx.out
    obtain ⟨q0, q1, q2, q3, q4⟩ := fm_cells Ky.out
    refine hK.out _ _ ⟨p0, p1, p2, p3, p4, q0, q1, q2, q3, q4⟩ (fun hHeld => ?_)
    clear hK K
    refine norm_ (a' := ?_) ?_ ?_
    rotate_left
    · show Act.put _ (some 36) _ = _
      simp only [Act.put, List.setIfInBounds_toArray, List.set_cons_zero, List.set_cons_succ, i64_w, i32_w]
      rfl
    clear p0 p1 p2 p3 p4 q0 q1 q2 q3 q4
    refine pure_ (i := 2) (N := some 37) (v := ?_) (a' := ?_) #[true, true, true, false, false, false, false, false, false, false, false, false, false, false, false, false, false, false] rfl rfl (by kernel_rfl) (fun _ _ _ h => h) (Or.inl ⟨by rfl, ?_⟩) ?_ ?_
    rotate_left
    · intro w'
      go_simp
      with_reducible rfl
    rotate_left
    · simp only [Act.put, List.setIfInBounds_toArray, List.set_cons_zero, List.set_cons_succ, i64_w, i32_w]
      rfl
    refine pure_ (i := 3) (N := some 38) (v := ?_) (a' := ?_) #[true, true, true, true, false, false, false, false, false, false, false, false, false, false, false, false, false, false] rfl rfl (by kernel_rfl) (fun _ _ _ h => h) (Or.inl ⟨by rfl, ?_⟩) ?_ ?_
    rotate_left
    · intro w'
      go_simp
      with_reducible rfl
    rotate_left
    · simp only [Act.put, List.setIfInBounds_toArray, List.set_cons_zero, List.set_cons_succ, i64_w, i32_w]
      rfl
    refine pure_ (i := 4) (N := some 39) (v := undef) (a' := ?_) #[true, true, true, true, true, false, false, false, false, false, false, false, false, false, false, false, false, false] rfl rfl (by kernel_rfl) (fun _ _ _ h => h) (Or.inr ⟨by rfl, rfl⟩) ?_ ?_
    rotate_left
    · simp only [Act.put, List.setIfInBounds_toArray, List.set_cons_zero, List.set_cons_succ, i64_w, i32_w]
      rfl
    refine one_ (i := 5) (N := some 40) #[true, true, true, true, true, true, false, false, false, false, false, false, false, false, false, false, false, false] rfl rfl (by kernel_rfl) (by decide) (fun K hK => ?_)
    refine off_ (by rfl) ?_
    obtain ⟨p0, p1, p2, p3, p4⟩ := fm_cells Kx.out
    obtain ⟨q0, q1, q2, q3, q4⟩ := fm_cells Ky.out
    refine hK.out _ _ ⟨p0, p1, p2, p3, p4, q0, q1, q2, q3, q4⟩ (fun hHeld => ?_)
    clear hK K
    refine norm_ (a' := ?_) ?_ ?_
    rotate_left
    · show Act.put _ (some 40) _ = _
      simp only [Act.put, List.setIfInBounds_toArray, List.set_cons_zero, List.set_cons_succ, i64_w, i32_w]
      rfl
    clear p0 p1 p2 p3 p4 q0 q1 q2 q3 q4
    refine pure_ (i := 6) (N := some 41) (v := undef) (a' := ?_) #[true, true, true, true, true, true, true, false, false, false, false, false, false, false, false, false, false, false] rfl rfl (by kernel_rfl) (fun _ _ _ h => h) (Or.inr ⟨by rfl, rfl⟩) ?_ ?_
    rotate_left
    · simp only [Act.put, List.setIfInBounds_toArray, List.set_cons_zero, List.set_cons_succ, i64_w, i32_w]
      rfl
    refine pure_ (i := 7) (N := some 42) (v := ?_) (a' := ?_) #[true, true, true, true, true, true, true, true, false, false, false, false, false, false, false, false, false, false] rfl rfl (by kernel_rfl) (fun _ _ _ h => h) (Or.inl ⟨by rfl, ?_⟩) ?_ ?_
    rotate_left
    · intro w'
      go_simp
      with_reducible rfl
    rotate_left
    · simp only [Act.put, List.setIfInBounds_toArray, List.set_cons_zero, List.set_cons_succ, i64_w, i32_w]
      rfl
    refine pure_ (i := 8) (N := some 43) (v := ?_) (a' := ?_) #[true, true, true, true, true, true, true, true, true, false, false, false, false, false, false, false, false, false] rfl rfl (by kernel_rfl) (fun _ _ _ h => h) (Or.inl ⟨by rfl, ?_⟩) ?_ ?_
    rotate_left
    · intro w'
      go_simp
      with_reducible rfl
    rotate_left
    · simp only [Act.put, List.setIfInBounds_toArray, List.set_cons_zero, List.set_cons_succ, i64_w, i32_w]
      rfl
    refine pure_ (i := 9) (N := some 44) (v := undef) (a' := ?_) #[true, true, true, true, true, true, true, true, true, true, false, false, false, false, false, false, false, false] rfl rfl (by kernel_rfl) (fun _ _ _ h => h) (Or.inr ⟨by rfl, rfl⟩) ?_ ?_
    rotate_left
    · simp only [Act.put, List.setIfInBounds_toArray, List.set_cons_zero, List.set_cons_succ, i64_w, i32_w]
      rfl
    refine pure_ (i := 10) (N := some 45) (v := undef) (a' := ?_) #[true, true, true, true, true, true, true, true, true, true, true, false, false, false, false, false, false, false] rfl rfl (by kernel_rfl) (fun _ _ _ h => h) (Or.inr ⟨by rfl, rfl⟩) ?_ ?_
    rotate_left
    · simp only [Act.put, List.setIfInBounds_toArray, List.set_cons_zero, List.set_cons_succ, i64_w, i32_w]
      rfl
    refine pure_ (i := 12) (N := some 47) (v := undef) (a' := ?_) #[true, true, true, true, true, true, true, true, true, true, true, false, true, false, false, false, false, false] rfl rfl (by kernel_rfl) (fun _ _ _ h => h) (Or.inr ⟨by rfl, rfl⟩) ?_ ?_
    rotate_left
    · simp only [Act.put, List.setIfInBounds_toArray, List.set_cons_zero, List.set_cons_succ, i64_w, i32_w]
      rfl
    refine one_ (i := 11) (N := some 46) #[true, true, true, true, true, true, true, true, true, true, true, true, true, false, false, false, false, false] rfl rfl (by kernel_rfl) (by decide) (fun K hK => ?_)
    refine off_ (by rfl) ?_
    obtain ⟨p0, p1, p2, p3, p4⟩ := fm_cells Kx.out
    obtain ⟨q0, q1, q2, q3, q4⟩ := fm_cells Ky.out
    refine hK.out _ _ ⟨p0, p1, p2, p3, p4, q0, q1, q2, q3, q4⟩ (fun hHeld => ?_)
    clear hK K
    refine norm_ (a' := ?_) ?_ ?_
    rotate_left
    · show Act.put _ (some 46) _ = _
      simp only [Act.put, List.setIfInBounds_toArray, List.set_cons_zero, List.set_cons_succ, i64_w, i32_w]
      rfl
    clear p0 p1 p2 p3 p4 q0 q1 q2 q3 q4
    refine one_ (i := 13) (N := some 48) #[true, true, true, true, true, true, true, true, true, true, true, true, true, true, false, false, false, false] rfl rfl (by kernel_rfl) (by decide) (fun K hK => ?_)
    refine off_ (by rfl) ?_
    obtain ⟨p0, p1, p2, p3, p4⟩ := fm_cells Kx.out
    obtain ⟨q0, q1, q2, q3, q4⟩ := fm_cells Ky.out
    refine hK.out _ _ ⟨p0, p1, p2, p3, p4, q0, q1, q2, q3, q4⟩ (fun hHeld => ?_)
    clear hK K
    refine norm_ (a' := ?_) ?_ ?_
    rotate_left
    · show Act.put _ (some 48) _ = _
      simp only [Act.put, List.setIfInBounds_toArray, List.set_cons_zero, List.set_cons_succ, i64_w, i32_w]
      rfl
    clear p0 p1 p2 p3 p4 q0 q1 q2 q3 q4
    refine pure_ (i := 14) (N := some 49) (v := undef) (a' := ?_) #[true, true, true, true, true, true, true, true, true, true, true, true, true, true, true, false, false, false] rfl rfl (by kernel_rfl) (fun _ _ _ h => h) (Or.inr ⟨by rfl, rfl⟩) ?_ ?_
    rotate_left
    · simp only [Act.put, List.setIfInBounds_toArray, List.set_cons_zero, List.set_cons_succ, i64_w, i32_w]
      rfl
    refine pure_ (i := 15) (N := some 50) (v := undef) (a' := ?_) #[true, true, true, true, true, true, true, true, true, true, true, true, true, true, true, true, false, false] rfl rfl (by kernel_rfl) (fun _ _ _ h => h) (Or.inr ⟨by rfl, rfl⟩) ?_ ?_
    rotate_left
    · simp only [Act.put, List.setIfInBounds_toArray, List.set_cons_zero, List.set_cons_succ, i64_w, i32_w]
      rfl
    refine pure_ (i := 16) (N := some 51) (v := ?_) (a' := ?_) #[true, true, true, true, true, true, true, true, true, true, true, true, true, true, true, true, true, false] rfl rfl (by kernel_rfl) (fun _ _ _ h => h) (Or.inl ⟨by rfl, ?_⟩) ?_ ?_
    rotate_left
    · intro w'
      go_simp
      with_reducible rfl
    rotate_left
    · simp only [Act.put, List.setIfInBounds_toArray, List.set_cons_zero, List.set_cons_succ, i64_w, i32_w]
      rfl
    refine pure_ (i := 17) (N := some 2) (v := ?_) (a' := ?_) #[true, true, true, true, true, true, true, true, true, true, true, true, true, true, true, true, true, true] rfl rfl (by kernel_rfl) (fun _ _ _ h => h) (Or.inl ⟨by rfl, ?_⟩) ?_ ?_
    rotate_left
    · intro w'
      go_simp
      with_reducible rfl
    rotate_left
    · simp only [Act.put, List.setIfInBounds_toArray, List.set_cons_zero, List.set_cons_succ, i64_w, i32_w]
      rfl
    refine done_ (by kernel_rfl) ?_
    go_wp2_with fail
    go_ret
    exact ⟨rfl, by repeat (first | exact BW.out | refine below_alloc ?_ _)⟩
end Go.Proofs.YteeepenncddnjaaDoor
end
section
namespace Go.Proofs.YteeepenncddnjaaDoor.fnFormSame
open Go.ChangeShapes Go.WideShapes Go.ChangeAt Go.RowKit Go.Proofs.YteeepenncddnjaaDoor
open Go.ChangeMaps (open_string shut_string)
set_option linter.unusedVariables false
theorem own : ownKnob Tryd.prog.godebug = none := by kernel_rfl
theorem laidOut : laidOutB Tryd.prog = true := by kernel_rfl
def IsRow (k : IntKind) (w : World) (a : Option Addr) (len cap : Nat) (zs : List Int) : Prop :=
  (a = none ∧ len = 0 ∧ cap = 0 ∧ zs = []) ∨
  ∃ x, a = some x ∧ len ≤ cap ∧ cap ≤ maxLen ∧ zs.length = cap ∧ (∀ i, i < zs.length → w.cell? (x.add i) = some (.int k (zs.getD i 0))) ∧ ∀ n ∈ zs, (Lit.int k n).wf = true
set_option maxRecDepth 100000 in
theorem lifted (os : Os) (started : os.Started) (H : Type) (enc : TypeId × Value → H) :
    ReturnsInHanded {} Tryd.checked os 3 .any (fun w args => (Rows.fnFormSameSpec.pre enc Tryd.prog Tryd.f3 [] false w args ∧ laidMetH Tryd.prog laid3 w) ∧ sizedMet enc Tryd.prog Tryd.f3 (OpenSpec.ofChange Rows.fnFormSameSpec) false w args) (Rows.fnFormSameSpec.post enc Tryd.prog Tryd.f3 false true false false) := by
  refine returnsInHanded_of_change_and (C := Tryd.checked) (X := fun w _ => laidMetH Tryd.prog laid3 w) (fun _ _ _ hh h => h.of_heap hh) own started (by kernel_rfl) Tryd.func3
    (ChangeSpec.witness_shaped (enc := enc) (C := Tryd.checked) (os := os) (X := fun w _ => laidMetH Tryd.prog laid3 w) false (World.doorLaid Tryd.prog 400 os) #[.slice none 0 0] 8 rfl (World.shaped_of_RefB (by kernel_rfl) (by kernel_rfl)) (by kernel_rfl) (by kernel_rfl) (by kernel_rfl) (door_met os _)) ?_
  intro W base args ds gs before hval0 hW hcnd hsz0 hL _
  have hsz : (DataW.weightsEach Tryd.prog (Tryd.f3.params.toList ++ Rows.fnFormSameSpec.plain.varTypes Tryd.prog) (ds ++ gs)).all (· ≤ reachBytes) = true := hsz0
  have hval : ∀ (j : Nat) t v, Tryd.f3.params[j]? = some t → args[j]? = some v → Value.okWide Tryd.prog W .any base t v := hval0
  have hW' := hW
  obtain ⟨p, q, hA0, hV, rfl, hfz, hnd⟩ := hW
  have hA : DataW.TrodAll enc Tryd.prog W 0 (fun _ => true) true Tryd.f3.params.toList args.toList ds p := hA0
  rw [Tryd.params3] at hA hval hsz
  obtain ⟨v0, vs0, d0, ds0, p0, q0, hargs, rfl, rfl, h0, r0⟩ := trodAll_cons hA
  obtain ⟨rfl, rfl, rfl⟩ := trodAll_nil r0
  obtain rfl : args = #[v0] := by cases args; simp_all
  obtain ⟨rfl, rfl⟩ := trodVars_none hV
  obtain ⟨a0, len0, cap0, rfl⟩ := okWide_slice Tryd.underlying22 (hval 0 22 v0 rfl rfl)
  have k0 := h0
  have lt0 : ∀ x ∈ p0, x.block < W.heap.size := by obtain ⟨m, hm⟩ := k0; exact DataW.trod_lt m _ _ _ hm
  obtain ⟨z0, w0⟩ : ∃ zs, IsRow .u8 W a0 len0 cap0 zs := by
    obtain ⟨fuel, hf⟩ := h0
    rcases open_ints Tryd.underlying22 Tryd.underlying5 (by kernel_rfl) hf with ⟨hcs, _⟩ | ⟨x, l, c, zs, hcs, _, hl, hm, hz, _, hcell, hwz⟩
    · simp [Value.cells] at hcs
      obtain ⟨rfl, rfl, rfl⟩ := hcs
      exact ⟨[], .inl ⟨rfl, rfl, rfl, rfl⟩⟩
    · simp [Value.cells] at hcs
      obtain ⟨rfl, rfl, rfl⟩ := hcs
      exact ⟨zs, .inr ⟨_, rfl, hl, hm, by simpa using hz, hcell, hwz⟩⟩
  have y0 : len0 * 1 ≤ 140737488351232 := Go.Proofs.YteeepenncddnjaaDoorW.PrintWords.sized_ints hsz (j := 0) (t := 22) rfl rfl Tryd.underlying22 Tryd.underlying5 (by kernel_rfl) (by kernel_rfl) h0
  obtain ⟨l0, rfl, hr0, hm0, hw0, hc0⟩ := Go.Proofs.YteeepenncddnjaaDoorW.PrintWords.ReadsInt.ofRowC w0
  clear hA0 hval0 hsz0 hsz
  refine (fnFormSame_walk _ _ l0 W (Go.Proofs.YteeepenncddnjaaDoorW.PrintWords.Kd.C_of_reads (d := (0 : Int)) (h1 := fun _ => rfl) hr0) hc0 y0 hw0 (tab_of hL)).mono fun e W' ⟨he, bel⟩ => ?_
  subst he
  exact ⟨_, rfl, _, _, _, [], _, [], hW', trodAll_mk1 (shut_bool Tryd.underlying4 _), (trodAll_cons_mk (Below.trod laidOut (by kernel_rfl) (of_decide_eq_true (by kernel_rfl)) k0 bel lt0) trodAll_mk0), rfl, bel.frame _, fun h => by cases h⟩
set_option maxRecDepth 100000 in
theorem closed : joinedFacts Tryd.prog 3 Tryd.f3 Rows.fnFormSameSpec Rows.fnFormSameRow = true := by
  unfold joinedFacts
  refine Bool.and_eq_true_iff.2 ⟨Bool.and_eq_true_iff.2 ⟨Bool.and_eq_true_iff.2 ⟨Bool.and_eq_true_iff.2 ⟨Bool.and_eq_true_iff.2 ⟨Bool.and_eq_true_iff.2 ⟨Bool.and_eq_true_iff.2 ⟨?_, mayEnter_yes⟩, (congrArg (fun b => Rows.fnFormSameRow.lifted == b) liftsFinal_no).trans (by kernel_rfl)⟩, (congrArg (fun b => b == some Rows.fnFormSameRow.make) make_cut).trans (by kernel_rfl)⟩, ?_⟩, ?_⟩, ?_⟩, ?_⟩
  all_goals kernel_rfl
theorem over : Rows.fnFormSameRow.holds Tryd.pinned (OpenSpec.ofChange Rows.fnFormSameSpec) :=
  OpenClaim.holds_of_wide 3 Tryd.f3 rfl rfl rfl rfl rfl rfl rfl ⟨rfl, rfl, rfl, rfl, rfl⟩ rfl rfl rfl rfl rfl (by kernel_rfl) Tryd.func3 closed
    (of_decide_eq_true (by kernel_rfl)) (by unfold Func.isWrapper; first | (rw [if_pos (by decide +kernel)]; kernel_rfl) | (rw [if_neg (by decide +kernel)]; exact ⟨rfl, rfl⟩))
    (fun os started H enc _ => lifted os started H enc)
end Go.Proofs.YteeepenncddnjaaDoor.fnFormSame
namespace Go.Proofs.YteeepenncddnjaaDoor
/-- The row. -/
theorem fnFormSame_row : Rows.FnFormSameSaid := fnFormSame.over
theorem fnFormSame_tie3 : Rows.fnFormSameRow.laidByTextAt .later Tryd.pinned [.data, .data, .data] true := OpenClaim.laidByTextAt_later rfl rfl tie (by kernel_rfl)
/-- The tied card. -/
theorem fnFormSame_holds : Rows.FnFormSameCardSaid :=
  Claim7.holds_tied_plain_at .later [] [.data, .data, .data] true (true, "d6c602bbc3bef5f822d3e324f773950865682dcf61708e441e970ce1caecdbd3") false
    fnFormSame_row (fun _ h => by cases h) (by kernel_rfl) (fun _ h => by cases h) fnFormSame_tie3 rfl ⟨rfl, rfl⟩ (by kernel_rfl) rfl
    (fun f fn hf hfn => by
      obtain rfl : f = 3 := Option.some.inj ((show Tryd.prog.funcNamed "loop.example/macroexpander/laws.FnFormSame" = some 3 by kernel_rfl).symm.trans hf) |>.symm
      obtain rfl : fn = Tryd.f3 := (Option.some.inj (Tryd.func3.symm.trans hfn)).symm
      exact ⟨by kernel_rfl, fun j t ht => by
        rw [Tryd.params3] at ht
        have hm : t ∈ [22] := by simpa using Array.mem_of_getElem? ht
        have hall : ([22].all fun u => !Tryd.prog.wantsStandIn u) = true := by kernel_rfl
        exact (show Tryd.prog.wantsStandIn t = false by simpa using List.all_eq_true.1 hall t hm)⟩)
    (by kernel_rfl)
#print axioms fnFormSame_holds
end Go.Proofs.YteeepenncddnjaaDoor
end
