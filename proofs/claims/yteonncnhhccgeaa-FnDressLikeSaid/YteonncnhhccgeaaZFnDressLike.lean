/- Lending a form a name's scopes is adding them one by one. For every input the law FnDressLike returns true, and leaves its input alone. No condition. -/
import Derived.Below
import Derived.ChangeOld
import Derived.JoinedOf
import Derived.KernelRfl
import Derived.OpenShut
import Derived.ProofKit
import Derived.RowKit3
import Derived.ShutString
import Derived.SizedLaws
import Derived.Test.YteonncnhhccgeaaRows
import Derived.WalkKit
import Derived.Test.YteonncnhhccgeaaPl1
import Derived.Test.YteonncnhhccgeaaPl4
import Derived.Test.YteonncnhhccgeaaPl5
section
namespace Go.Proofs.Yteonncnhhccgeaa
open Go.RowKit Go.Proofs.YteonncnhhccgeaaW.PrintWords Go.Proofs.YteonncnhhccgeaaW.PrintLast Go.Proofs.YteonncnhhccgeaaW.PrintMore
set_option linter.unusedVariables false
set_option linter.unusedSimpArgs false
set_option maxHeartbeats 4000000 in
set_option maxRecDepth 100000 in
theorem fnDressLike_walk (A0 : Option Addr) (c0 : Nat) (l0 : List Int) (w : World)
    (hr0 : (Kd.int .u8).C w A0 l0.length l0) (hc0 : l0.length ≤ c0) (y0 : l0.length * 1 ≤ 140737488351232) (hw0 : ∀ n ∈ l0, (Lit.int .u8 n).wf = true) :
    Calls Try.prog 11 #[.slice A0 l0.length c0] w fun e w' => e = .returned (.bool true) ∧ Below w.heap.size w w' := by
  by_cases g0 : l0.length ≤ 1048576
  rotate_left
  · have t0 : decide ((l0.length : Int) > 1048576) = true := decide_eq_true (by omega)
    have t0' : decide (1048576 < l0.length) = true := decide_eq_true (by omega)
    go_enter Try.func11, Try.ntmps11
    go_wp2_with fail
    go_ret
    exact ⟨rfl, Below.refl _ _⟩
  obtain ⟨x, m, hx, hm, D0⟩ := drawDress l0 (fun z hz => byteOk (hw0 z hz))
  rcases h1 : dressR m x with ⟨z, b1⟩
  have hz := dressR_tot m x
  rw [h1] at hz
  replace D0 := Lib.hid D0
  have t0 : decide ((l0.length : Int) > 1048576) = false := decide_eq_false (by omega)
  have t0' : decide (1048576 < l0.length) = false := decide_eq_false (by omega)
  go_enter Try.func11, Try.ntmps11
  go_wp2_with fail
  refine (D0.out A0 c0 _ hr0 hc0).mono ?_
  rintro e w1 ⟨X_3, X_c3, X_4, X_c4, M_3, M_c3, M_4, M_c4, rfl, i, j, b⟩
  have I := Lib.hid i
  clear i
  have J := Lib.hid j
  clear j
  have BW := Lib.hid b
  clear b
  have Ix := Lib.hid I.out
  clear I
  have Im := Lib.hid J.out
  clear J
  go_wp2_with fail
  obtain ⟨k, k', b⟩ := two_new (Below.refl ((w1.alloc (.cells #[.int .i64 x.f0, .string x.f1, .int .i64 x.f2, .slice X_3 x.f3.length X_c3, .slice X_4 x.f4.length X_c4] 31)).alloc (.cells #[.int .i64 m.f0, .string m.f1, .int .i64 m.f2, .slice M_3 m.f3.length M_c3, .slice M_4 m.f4.length M_c4] 31)).heap.size ((w1.alloc (.cells #[.int .i64 x.f0, .string x.f1, .int .i64 x.f2, .slice X_3 x.f3.length X_c3, .slice X_4 x.f4.length X_c4] 31)).alloc (.cells #[.int .i64 m.f0, .string m.f1, .int .i64 m.f2, .slice M_3 m.f3.length M_c3, .slice M_4 m.f4.length M_c4] 31)))
  replace Ix := Lib.hid (Ix.out.below b)
  replace Im := Lib.hid (Im.out.below b)
  replace BW := Lib.hid (below_step BW.out b)
  clear b
  have Kx := Lib.hid k
  clear k
  have Km := Lib.hid k'
  clear k'
  generalize ((w1.alloc (.cells #[.int .i64 x.f0, .string x.f1, .int .i64 x.f2, .slice X_3 x.f3.length X_c3, .slice X_4 x.f4.length X_c4] 31)).alloc (.cells #[.int .i64 m.f0, .string m.f1, .int .i64 m.f2, .slice M_3 m.f3.length M_c3, .slice M_4 m.f4.length M_c4] 31)) = wz at Kx Km Ix Im BW ⊢
  refine (implDress' h1 _ _ _ _ _ _ _ _ _ Ix.out Im.out (by omega) (by omega)).mono ?_
  rintro e w2 ⟨Z_3, Z_c3, Z_4, Z_c4, rfl, i, b⟩
  have I := Lib.hid i
  clear i
  replace Kx := Lib.hid (blk_below Kx.out b)
  replace Km := Lib.hid (blk_below Km.out b)
  replace Ix := Lib.hid (Ix.out.below b)
  replace Im := Lib.hid (Im.out.below b)
  replace BW := Lib.hid (below_step BW.out b)
  clear b
  have Iz := Lib.hid I.out
  clear I
  obtain ⟨p0, p1, p2, p3, p4⟩ := fm_cells (blk_below Kx.out (below_new w2 (.cells #[.int .i64 z.f0, .string z.f1, .int .i64 z.f2, .slice Z_3 z.f3.length Z_c3, .slice Z_4 z.f4.length Z_c4] 31)))
  obtain ⟨q0, q1, q2, q3, q4⟩ := fm_cells (blk_below Km.out (below_new w2 (.cells #[.int .i64 z.f0, .string z.f1, .int .i64 z.f2, .slice Z_3 z.f3.length Z_c3, .slice Z_4 z.f4.length Z_c4] 31)))
  go_wp2_with fail
  clear p0 p1 p2 p3 p4 q0 q1 q2 q3 q4
  refine (specDress' h1 _ _ _ _ _ _ _ _ _ (Ix.out.below (below_new _ _)) (Im.out.below (below_new _ _)) (by omega) (by omega)).mono ?_
  rintro e w3 ⟨U_3, U_c3, U_4, U_c4, rfl, i, b⟩
  have I := Lib.hid i
  clear i
  obtain ⟨k, b⟩ := one_new b
  replace Kx := Lib.hid (blk_below Kx.out b)
  replace Km := Lib.hid (blk_below Km.out b)
  replace Ix := Lib.hid (Ix.out.below b)
  replace Im := Lib.hid (Im.out.below b)
  replace Iz := Lib.hid (Iz.out.below b)
  replace BW := Lib.hid (below_step BW.out b)
  have Kz := Lib.hid k
  clear k
  clear b
  have Iu := Lib.hid I.out
  clear I
  obtain ⟨p0, p1, p2, p3, p4⟩ := fm_cells (blk_below Kz.out (below_new w3 (.cells #[.int .i64 z.f0, .string z.f1, .int .i64 z.f2, .slice U_3 z.f3.length U_c3, .slice U_4 z.f4.length U_c4] 31)))
  go_wp2_with fail
  clear p0 p1 p2 p3 p4
  refine (sameT z _ _ _ _ _ _ _ _ _ (Iz.out.below (below_new _ _)) (Iu.out.below (below_new _ _))).mono ?_
  rintro e w4 ⟨rfl, b⟩
  obtain ⟨k, b⟩ := one_new b
  replace Kx := Lib.hid (blk_below Kx.out b)
  replace Km := Lib.hid (blk_below Km.out b)
  replace Kz := Lib.hid (blk_below Kz.out b)
  replace Ix := Lib.hid (Ix.out.below b)
  replace Im := Lib.hid (Im.out.below b)
  replace Iz := Lib.hid (Iz.out.below b)
  replace Iu := Lib.hid (Iu.out.below b)
  replace BW := Lib.hid (below_step BW.out b)
  have Ku := Lib.hid k
  clear k
  clear b
  rcases b1 with _ | _
  · obtain ⟨p0, p1, p2, p3, p4⟩ := fm_cells Kz.out
    obtain ⟨q0, q1, q2, q3, q4⟩ := fm_cells Ku.out
    go_wp2_with fail
    clear p0 p1 p2 p3 p4 q0 q1 q2 q3 q4
    refine (sameT z _ _ _ _ _ _ _ _ _ Iz.out Iu.out).mono ?_
    rintro e w5 ⟨rfl, b⟩
    replace Kx := Lib.hid (blk_below Kx.out b)
    replace Km := Lib.hid (blk_below Km.out b)
    replace Kz := Lib.hid (blk_below Kz.out b)
    replace Ku := Lib.hid (blk_below Ku.out b)
    replace Ix := Lib.hid (Ix.out.below b)
    replace Im := Lib.hid (Im.out.below b)
    replace Iz := Lib.hid (Iz.out.below b)
    replace Iu := Lib.hid (Iu.out.below b)
    replace BW := Lib.hid (below_step BW.out b)
    clear b
    go_wp2_with fail
    go_ret
    exact ⟨rfl, by repeat (first | exact BW.out | refine below_alloc ?_ _)⟩
  · have hms : m.f3.length ≤ 7000 := by have := m.tot_eq; omega
    obtain ⟨l, hl⟩ : ∃ l, scAll z = l := ⟨_, rfl⟩
    obtain ⟨q, hq⟩ : ∃ q, namesN x = q := ⟨_, rfl⟩
    have HST := Lib.hid (fun (i : Nat) (hi : i < m.f3.length) => addTo_step h1 hi)
    have HAL := Lib.hid (addTo_all h1)
    have HZ0 := Lib.hid (addTo_zero h1)
    have HTT := Lib.hid (fun i => fmOk_tot (addTo_ok h1 i))
    have HHS := Lib.hid (hl ▸ hq ▸ dress_has h1 : q ≠ [] → wB m.f3 l = true)
    clear h1
    obtain ⟨p0, p1, p2, p3, p4⟩ := fm_cells Kx.out
    obtain ⟨q0, q1, q2, q3, q4⟩ := fm_cells Km.out
    go_wp2_with fail
    clear p0 p1 p2 p3 p4 q0 q1 q2 q3 q4
    have HXI := Lib.hid Ix.out
    go_loopg [10, 11, 12] m.f3.length (fun kq v10 v11 v12 w' => ∃ (i : Nat) (Y_3 : Option Addr) (Y_c3 : Nat) (Y_4 : Option Addr) (Y_c4 : Nat), i ≤ m.f3.length ∧ m.f3.length - i ≤ kq ∧ v10 = .int .i64 i ∧ Aside0 (w'.heap[w4.heap.size]? = some (.cells #[.int .i64 (addTo x m.f3 i).f0, .string (addTo x m.f3 i).f1, .int .i64 (addTo x m.f3 i).f2, .slice Y_3 (addTo x m.f3 i).f3.length Y_c3, .slice Y_4 (addTo x m.f3 i).f4.length Y_c4] 31 (0, 0))) ∧ Aside0 (FmK w4.heap.size w' (addTo x m.f3 i) Y_3 Y_c3 Y_4 Y_c4) ∧ Aside0 (Below w4.heap.size w4 w'))
    case atStart => exact ⟨0, X_3, X_c3, X_4, X_c4, Nat.zero_le _, by omega, rfl, ⟨by rw [HZ0.out]; exact blk_new _ _⟩, ⟨by rw [HZ0.out]; exact FmK.elder HXI.out (below_new _ _) (Nat.le_refl _)⟩, ⟨below_new _ _⟩⟩
    case round =>
      obtain ⟨i, Y_3, Y_c3, Y_4, Y_c4, hi, hg, rfl, HY, HK, HW⟩ := hrel
      replace Kx := Lib.hid (blk_below Kx.out HW.out)
      replace Km := Lib.hid (blk_below Km.out HW.out)
      replace Kz := Lib.hid (blk_below Kz.out HW.out)
      replace Ku := Lib.hid (blk_below Ku.out HW.out)
      replace Ix := Lib.hid (Ix.out.below HW.out)
      replace Im := Lib.hid (Im.out.below HW.out)
      replace Iz := Lib.hid (Iz.out.below HW.out)
      replace Iu := Lib.hid (Iu.out.below HW.out)
      replace BW := Lib.hid (below_step BW.out HW.out)
      replace HW := Lib.hid HW.out
      clear HXI
      by_cases hlt : i < m.f3.length
      · have hst := HST.out i hlt
        have ht1 := HTT.out i
        generalize hy : addTo x m.f3 i = y at HY HK hst ht1
        generalize hy' : addTo x m.f3 (i + 1) = y' at hst
        have HYE := Lib.hid hy'
        clear hy hy'
        obtain ⟨ad, e, g0⟩ := int_at Im.out.g3 i hlt
        subst e
        have HG := Lib.hid g0
        have HGY := Lib.hid (show w4.heap.size < wr.heap.size from blk_lt HY.out)
        obtain ⟨p0, p1, p2, p3, p4⟩ := fm_cells Km.out
        go_wp2_with fail
        clear g0 p0 p1 p2 p3 p4
        have b := below_drew (Below.refl wr.heap.size wr)
        have HB := Lib.hid b
        obtain ⟨q0, q1, q2, q3, q4⟩ := fm_cells (blk_below HY.out b)
        have q5 := ck0 b HG.out
        have q6 := (fm_cells (blk_below Km.out b)).2.2.2.1
        clear b
        refine start_ (n := 13) (S := (fun W : World => W.cell? ⟨w4.heap.size, 0, none⟩ = some (.int .i64 y.f0) ∧ W.cell? ⟨w4.heap.size, 1, none⟩ = some (.string y.f1) ∧ W.cell? ⟨w4.heap.size, 2, none⟩ = some (.int .i64 y.f2) ∧ W.cell? ⟨w4.heap.size, 3, none⟩ = some (.slice Y_3 y.f3.length Y_c3) ∧ W.cell? ⟨w4.heap.size, 4, none⟩ = some (.slice Y_4 y.f4.length Y_c4) ∧ W.cell? (ad.add i) = some (.int .i64 m.f3[i]) ∧ W.cell? ⟨(w1.heap.size + 1), 3, none⟩ = some (.slice (some ad) m.f3.length M_c3))) (ds := []) #[false, false, false, false, false, false, false, false, false, false, false, false, false] (by kernel_rfl) rfl rfl ⟨q0, q1, q2, q3, q4, q5, q6⟩ (fun hHeld => ?_)
        generalize World.drew _ = wd at HB hHeld ⊢
        clear q0 q1 q2 q3 q4 q5 q6
        refine take_ (i := 0) (N := some 63) (v := ?_) (a' := ?_) #[true, false, false, false, false, false, false, false, false, false, false, false, false] rfl rfl (by kernel_rfl) (fun _ _ _ h => h) (Or.inl ⟨by rfl, ?_⟩) hHeld ?_ ?_
        rotate_left
        · rintro w' ⟨s0, s1, s2, s3, s4, s5, s6⟩
          go_simp
          with_reducible rfl
        rotate_left
        · simp only [Act.put, List.setIfInBounds_toArray, List.set_cons_zero, List.set_cons_succ, i64_w, i32_w]
          rfl
        refine pure_ (i := 1) (N := some 64) (v := ?_) (a' := ?_) #[true, true, false, false, false, false, false, false, false, false, false, false, false] rfl rfl (by kernel_rfl) (fun _ _ _ h => h) (Or.inl ⟨by rfl, ?_⟩) ?_ ?_
        rotate_left
        · intro w'
          go_simp
          with_reducible rfl
        rotate_left
        · simp only [Act.put, List.setIfInBounds_toArray, List.set_cons_zero, List.set_cons_succ, i64_w, i32_w]
          rfl
        refine take_ (i := 2) (N := some 65) (v := ?_) (a' := ?_) #[true, true, true, false, false, false, false, false, false, false, false, false, false] rfl rfl (by kernel_rfl) (fun _ _ _ h => h) (Or.inl ⟨by rfl, ?_⟩) hHeld ?_ ?_
        rotate_left
        · rintro w' ⟨s0, s1, s2, s3, s4, s5, s6⟩
          go_simp
          with_reducible rfl
        rotate_left
        · simp only [Act.put, List.setIfInBounds_toArray, List.set_cons_zero, List.set_cons_succ, i64_w, i32_w]
          rfl
        refine pure_ (i := 3) (N := some 66) (v := ?_) (a' := ?_) #[true, true, true, true, false, false, false, false, false, false, false, false, false] rfl rfl (by kernel_rfl) (fun _ _ _ h => h) (Or.inl ⟨by rfl, ?_⟩) ?_ ?_
        rotate_left
        · intro w'
          go_simp
          with_reducible rfl
        rotate_left
        · simp only [Act.put, List.setIfInBounds_toArray, List.set_cons_zero, List.set_cons_succ, i64_w, i32_w]
          rfl
        refine pure_ (i := 4) (N := some 67) (v := ?_) (a' := ?_) #[true, true, true, true, true, false, false, false, false, false, false, false, false] rfl rfl (by kernel_rfl) (fun _ _ _ h => h) (Or.inl ⟨by rfl, ?_⟩) ?_ ?_
        rotate_left
        · intro w'
          go_simp
          with_reducible rfl
        rotate_left
        · simp only [Act.put, List.setIfInBounds_toArray, List.set_cons_zero, List.set_cons_succ, i64_w, i32_w]
          rfl
        refine take_ (i := 5) (N := some 68) (v := ?_) (a' := ?_) #[true, true, true, true, true, true, false, false, false, false, false, false, false] rfl rfl (by kernel_rfl) (fun _ _ _ h => h) (Or.inl ⟨by rfl, ?_⟩) hHeld ?_ ?_
        rotate_left
        · rintro w' ⟨s0, s1, s2, s3, s4, s5, s6⟩
          go_simp
          with_reducible rfl
        rotate_left
        · simp only [Act.put, List.setIfInBounds_toArray, List.set_cons_zero, List.set_cons_succ, i64_w, i32_w]
          rfl
        refine two_ (i := 6) (j := 10) (Ni := some 69) (Nj := some 11) #[true, true, true, true, true, true, true, false, false, false, false, false, false] #[true, true, true, true, true, true, false, false, false, false, true, false, false] rfl rfl rfl rfl (by kernel_rfl) (by decide) (by decide) (fun K hK => ?_) (fun K hK => ?_)
        · refine goes_ Try.func31 (by kernel_rfl) rfl #[.agg #[.int .i64 y.f0, .string y.f1, .int .i64 y.f2, .slice Y_3 y.f3.length Y_c3, .slice Y_4 y.f4.length Y_c4], .int .i64 m.f3[i]] (by rfl) rfl rfl (by (try simp only [List.map_toArray, List.map_cons, List.map_nil]); first | done | rfl) ?_
          refine (implSAdd' hst Y_3 Y_c3 Y_4 Y_c4 wd (HK.out.later HB.out).now (by omega)).mono ?_
          rintro e w31 ⟨N_3, N_c3, N_4, N_c4, rfl, hs, b⟩
          have HSN := Lib.hid hs
          refine ⟨_, rfl, ?_⟩
          have hlo : wr.heap.size ≤ wd.heap.size := HB.out.size
          replace HB := Lib.hid (below_step HB.out b)
          refine hK.out _ _ (⟨(fm_cells (blk_below HY.out HB.out)).1, (fm_cells (blk_below HY.out HB.out)).2.1, (fm_cells (blk_below HY.out HB.out)).2.2.1, (fm_cells (blk_below HY.out HB.out)).2.2.2.1, (fm_cells (blk_below HY.out HB.out)).2.2.2.2, ck0 HB.out HG.out, (fm_cells (blk_below Km.out HB.out)).2.2.2.1⟩ : _ ∧ _) (fun hHeld => ?_)
          clear hK K
          refine norm_ (a' := ?_) ?_ ?_
          rotate_left
          · show Act.put _ (some 69) _ = _
            simp only [Act.put, List.setIfInBounds_toArray, List.set_cons_zero, List.set_cons_succ, i64_w, i32_w]
            rfl
          refine pure_ (i := 7) (N := some 62) (v := ?_) (a' := ?_) #[true, true, true, true, true, true, true, true, false, false, false, false, false] rfl rfl (by kernel_rfl) (fun _ _ _ h => h) (Or.inl ⟨by rfl, ?_⟩) ?_ ?_
          rotate_left
          · intro w'
            go_simp
            with_reducible rfl
          rotate_left
          · simp only [Act.put, List.setIfInBounds_toArray, List.set_cons_zero, List.set_cons_succ, i64_w, i32_w]
            rfl
          refine pure_ (i := 8) (N := some 70) (v := ?_) (a' := ?_) #[true, true, true, true, true, true, true, true, true, false, false, false, false] rfl rfl (by kernel_rfl) (fun _ _ _ h => h) (Or.inl ⟨by rfl, ?_⟩) ?_ ?_
          rotate_left
          · intro w'
            go_simp
            with_reducible rfl
          rotate_left
          · simp only [Act.put, List.setIfInBounds_toArray, List.set_cons_zero, List.set_cons_succ, i64_w, i32_w]
            rfl
          refine pure_ (i := 9) (N := some 71) (v := ?_) (a' := ?_) #[true, true, true, true, true, true, true, true, true, true, false, false, false] rfl rfl (by kernel_rfl) (fun _ _ _ h => h) (Or.inl ⟨by rfl, ?_⟩) ?_ ?_
          rotate_left
          · intro w'
            go_simp
            with_reducible rfl
          rotate_left
          · simp only [Act.put, List.setIfInBounds_toArray, List.set_cons_zero, List.set_cons_succ, i64_w, i32_w]
            rfl
          refine one_ (i := 10) (N := some 11) #[true, true, true, true, true, true, true, true, true, true, true, false, false] rfl rfl (by kernel_rfl) (by decide) (fun K hK => ?_)
          refine box_step ?hg (N := 11) ?hd (cs := #[.int .i64 0, .string ⟨#[]⟩, .int .i64 0, .slice none 0 0, .slice none 0 0]) (t := 31) ?hr ?_; (case hd => rfl); (case hg => rfl); (case hr => first | (go_simp; done) | (go_simp; rfl))
          intro g3 hg3 w32 hbox hb32
          have b := hb32
          have hge : wr.heap.size ≤ g3 := hg3 ▸ HB.out.size
          replace HB := Lib.hid (below_step HB.out b)
          refine hK.out _ _ (⟨(fm_cells (blk_below HY.out HB.out)).1, (fm_cells (blk_below HY.out HB.out)).2.1, (fm_cells (blk_below HY.out HB.out)).2.2.1, (fm_cells (blk_below HY.out HB.out)).2.2.2.1, (fm_cells (blk_below HY.out HB.out)).2.2.2.2, ck0 HB.out HG.out, (fm_cells (blk_below Km.out HB.out)).2.2.2.1⟩ : _ ∧ _) (fun hHeld => ?_)
          clear hK K
          refine norm_ (a' := ?_) ?_ ?_
          rotate_left
          · show Act.put _ (some 11) _ = _
            simp only [Act.put, List.setIfInBounds_toArray, List.set_cons_zero, List.set_cons_succ, i64_w, i32_w]
            rfl
          obtain ⟨z0, z1, z2, z3, z4⟩ := fm_cells hbox
          obtain ⟨f0, f1, f2, f3, f4⟩ := fm_free hbox
          obtain ⟨st1, st2, st3⟩ := st5 hbox (.int .i64 y'.f0) (.string y'.f1) (.int .i64 y'.f2) (.slice N_3 y'.f3.length N_c3) (.slice N_4 y'.f4.length N_c4)
          have HX := Lib.hid (st3 _ _ HB.out hge)
          have HSX := Lib.hid (FmK.ofS (g := w4.heap.size) (HSN.out.move (Nat.le_trans hb32.size (st3 0 w32 (Below.refl 0 _) (Nat.zero_le _)).size) (fun b h1 h2 => (st2 b (by omega)).trans (hb32.block b h2))) (by have := HGY.out; omega))
          have HN := Lib.hid st1
          clear hbox st1 st2 st3 hge hg3 hlo b hs
          refine one_ (i := 11) (N := none) #[true, true, true, true, true, true, true, true, true, true, true, true, false] rfl rfl (by kernel_rfl) (by decide) (fun K hK => ?_)
          refine skip_ (w1 := ?_) (by rfl) rfl ?_ ?_
          rotate_left
          · go_simp
            rfl
          refine hK.out _ _ (⟨(fm_cells (blk_below HY.out HX.out)).1, (fm_cells (blk_below HY.out HX.out)).2.1, (fm_cells (blk_below HY.out HX.out)).2.2.1, (fm_cells (blk_below HY.out HX.out)).2.2.2.1, (fm_cells (blk_below HY.out HX.out)).2.2.2.2, ck0 HX.out HG.out, (fm_cells (blk_below Km.out HX.out)).2.2.2.1⟩ : _ ∧ _) (fun hHeld => ?_)
          clear hK K z0 z1 z2 z3 z4 f0 f1 f2 f3 f4
          generalize World.setCell (World.setCell (World.setCell (World.setCell (World.setCell w32 _ _) _ _) _ _) _ _) _ _ = wx at HX HSX HN hHeld ⊢
          refine pure_ (i := 12) (N := some 12) (v := ?_) (a' := ?_) #[true, true, true, true, true, true, true, true, true, true, true, true, true] rfl rfl (by kernel_rfl) (fun _ _ _ h => h) (Or.inl ⟨by rfl, ?_⟩) ?_ ?_
          rotate_left
          · intro w'
            go_simp
            with_reducible rfl
          rotate_left
          · simp only [Act.put, List.setIfInBounds_toArray, List.set_cons_zero, List.set_cons_succ, i64_w, i32_w]
            rfl
          refine done_ (by kernel_rfl) ?_
          obtain ⟨z0, z1, z2, z3, z4⟩ := fm_cells HN.out
          have hyx := blk_below HY.out HX.out
          obtain ⟨q0, q1, q2, q3, q4⟩ := fm_cells hyx
          obtain ⟨f0, f1, f2, f3, f4⟩ := fm_free hyx
          obtain ⟨st1, st2, st3⟩ := st5 hyx (.int .i64 y'.f0) (.string y'.f1) (.int .i64 y'.f2) (.slice N_3 y'.f3.length N_c3) (.slice N_4 y'.f4.length N_c4)
          have HEND := Lib.hid (And.intro st1 (And.intro (HSX.out.move (Mk.put5 wx w4.heap.size (.int .i64 y'.f0) (.string y'.f1) (.int .i64 y'.f2) (.slice N_3 y'.f3.length N_c3) (.slice N_4 y'.f4.length N_c4))) (st3 _ _ (below_step HW.out HX.out) (Nat.le_refl _))))
          clear hyx st1 st2 st3 hHeld
          go_wp2_with fail
          go_roundg (m.f3.length - (i + 1))
          case measure => omega
          case rel => exact ⟨i + 1, N_3, N_c3, N_4, N_c4, by omega, Nat.le_refl _, by go_num, ⟨by rw [HYE.out]; exact HEND.out.1⟩, ⟨by rw [HYE.out]; exact HEND.out.2.1⟩, ⟨HEND.out.2.2⟩⟩
        · refine box_step ?hg (N := 11) ?hd (cs := #[.int .i64 0, .string ⟨#[]⟩, .int .i64 0, .slice none 0 0, .slice none 0 0]) (t := 31) ?hr ?_; (case hd => rfl); (case hg => rfl); (case hr => first | (go_simp; done) | (go_simp; rfl))
          intro g3 hg3 w31 hbox b
          have hge : wr.heap.size ≤ g3 := hg3 ▸ HB.out.size
          replace HB := Lib.hid (below_step HB.out b)
          have hsz1 : g3 < w31.heap.size := blk_lt hbox
          clear b
          refine hK.out _ _ (⟨(fm_cells (blk_below HY.out HB.out)).1, (fm_cells (blk_below HY.out HB.out)).2.1, (fm_cells (blk_below HY.out HB.out)).2.2.1, (fm_cells (blk_below HY.out HB.out)).2.2.2.1, (fm_cells (blk_below HY.out HB.out)).2.2.2.2, ck0 HB.out HG.out, (fm_cells (blk_below Km.out HB.out)).2.2.2.1⟩ : _ ∧ _) (fun hHeld => ?_)
          clear hK K
          refine norm_ (a' := ?_) ?_ ?_
          rotate_left
          · show Act.put _ (some 11) _ = _
            simp only [Act.put, List.setIfInBounds_toArray, List.set_cons_zero, List.set_cons_succ, i64_w, i32_w]
            rfl
          refine one_ (i := 6) (N := some 69) #[true, true, true, true, true, true, true, false, false, false, true, false, false] rfl rfl (by kernel_rfl) (by decide) (fun K hK => ?_)
          refine goes_ Try.func31 (by kernel_rfl) rfl #[.agg #[.int .i64 y.f0, .string y.f1, .int .i64 y.f2, .slice Y_3 y.f3.length Y_c3, .slice Y_4 y.f4.length Y_c4], .int .i64 m.f3[i]] (by rfl) rfl rfl (by (try simp only [List.map_toArray, List.map_cons, List.map_nil]); first | done | rfl) ?_
          refine (implSAdd' hst Y_3 Y_c3 Y_4 Y_c4 w31 (HK.out.later HB.out).now (by omega)).mono ?_
          rintro e w32 ⟨N_3, N_c3, N_4, N_c4, rfl, hs, b⟩
          have HSN := Lib.hid hs
          refine ⟨_, rfl, ?_⟩
          have hlo : wr.heap.size ≤ w31.heap.size := HB.out.size
          replace HB := Lib.hid (below_step HB.out b)
          replace hbox := blk_below hbox b
          refine hK.out _ _ (⟨(fm_cells (blk_below HY.out HB.out)).1, (fm_cells (blk_below HY.out HB.out)).2.1, (fm_cells (blk_below HY.out HB.out)).2.2.1, (fm_cells (blk_below HY.out HB.out)).2.2.2.1, (fm_cells (blk_below HY.out HB.out)).2.2.2.2, ck0 HB.out HG.out, (fm_cells (blk_below Km.out HB.out)).2.2.2.1⟩ : _ ∧ _) (fun hHeld => ?_)
          clear hK K
          refine norm_ (a' := ?_) ?_ ?_
          rotate_left
          · show Act.put _ (some 69) _ = _
            simp only [Act.put, List.setIfInBounds_toArray, List.set_cons_zero, List.set_cons_succ, i64_w, i32_w]
            rfl
          refine pure_ (i := 7) (N := some 62) (v := ?_) (a' := ?_) #[true, true, true, true, true, true, true, true, false, false, true, false, false] rfl rfl (by kernel_rfl) (fun _ _ _ h => h) (Or.inl ⟨by rfl, ?_⟩) ?_ ?_
          rotate_left
          · intro w'
            go_simp
            with_reducible rfl
          rotate_left
          · simp only [Act.put, List.setIfInBounds_toArray, List.set_cons_zero, List.set_cons_succ, i64_w, i32_w]
            rfl
          refine pure_ (i := 8) (N := some 70) (v := ?_) (a' := ?_) #[true, true, true, true, true, true, true, true, true, false, true, false, false] rfl rfl (by kernel_rfl) (fun _ _ _ h => h) (Or.inl ⟨by rfl, ?_⟩) ?_ ?_
          rotate_left
          · intro w'
            go_simp
            with_reducible rfl
          rotate_left
          · simp only [Act.put, List.setIfInBounds_toArray, List.set_cons_zero, List.set_cons_succ, i64_w, i32_w]
            rfl
          refine pure_ (i := 9) (N := some 71) (v := ?_) (a' := ?_) #[true, true, true, true, true, true, true, true, true, true, true, false, false] rfl rfl (by kernel_rfl) (fun _ _ _ h => h) (Or.inl ⟨by rfl, ?_⟩) ?_ ?_
          rotate_left
          · intro w'
            go_simp
            with_reducible rfl
          rotate_left
          · simp only [Act.put, List.setIfInBounds_toArray, List.set_cons_zero, List.set_cons_succ, i64_w, i32_w]
            rfl
          obtain ⟨z0, z1, z2, z3, z4⟩ := fm_cells hbox
          obtain ⟨f0, f1, f2, f3, f4⟩ := fm_free hbox
          obtain ⟨st1, st2, st3⟩ := st5 hbox (.int .i64 y'.f0) (.string y'.f1) (.int .i64 y'.f2) (.slice N_3 y'.f3.length N_c3) (.slice N_4 y'.f4.length N_c4)
          have HX := Lib.hid (st3 _ _ HB.out hge)
          have HSX := Lib.hid (FmK.ofS (g := w4.heap.size) (HSN.out.move ((st3 0 w32 (Below.refl 0 _) (Nat.zero_le _)).size) (fun b h1 h2 => st2 b (by omega))) (by have := HGY.out; omega))
          have HN := Lib.hid st1
          clear hbox st1 st2 st3 hge hg3 hlo b hs
          refine one_ (i := 11) (N := none) #[true, true, true, true, true, true, true, true, true, true, true, true, false] rfl rfl (by kernel_rfl) (by decide) (fun K hK => ?_)
          refine skip_ (w1 := ?_) (by rfl) rfl ?_ ?_
          rotate_left
          · go_simp
            rfl
          refine hK.out _ _ (⟨(fm_cells (blk_below HY.out HX.out)).1, (fm_cells (blk_below HY.out HX.out)).2.1, (fm_cells (blk_below HY.out HX.out)).2.2.1, (fm_cells (blk_below HY.out HX.out)).2.2.2.1, (fm_cells (blk_below HY.out HX.out)).2.2.2.2, ck0 HX.out HG.out, (fm_cells (blk_below Km.out HX.out)).2.2.2.1⟩ : _ ∧ _) (fun hHeld => ?_)
          clear hK K z0 z1 z2 z3 z4 f0 f1 f2 f3 f4
          generalize World.setCell (World.setCell (World.setCell (World.setCell (World.setCell w32 _ _) _ _) _ _) _ _) _ _ = wx at HX HSX HN hHeld ⊢
          refine pure_ (i := 12) (N := some 12) (v := ?_) (a' := ?_) #[true, true, true, true, true, true, true, true, true, true, true, true, true] rfl rfl (by kernel_rfl) (fun _ _ _ h => h) (Or.inl ⟨by rfl, ?_⟩) ?_ ?_
          rotate_left
          · intro w'
            go_simp
            with_reducible rfl
          rotate_left
          · simp only [Act.put, List.setIfInBounds_toArray, List.set_cons_zero, List.set_cons_succ, i64_w, i32_w]
            rfl
          refine done_ (by kernel_rfl) ?_
          obtain ⟨z0, z1, z2, z3, z4⟩ := fm_cells HN.out
          have hyx := blk_below HY.out HX.out
          obtain ⟨q0, q1, q2, q3, q4⟩ := fm_cells hyx
          obtain ⟨f0, f1, f2, f3, f4⟩ := fm_free hyx
          obtain ⟨st1, st2, st3⟩ := st5 hyx (.int .i64 y'.f0) (.string y'.f1) (.int .i64 y'.f2) (.slice N_3 y'.f3.length N_c3) (.slice N_4 y'.f4.length N_c4)
          have HEND := Lib.hid (And.intro st1 (And.intro (HSX.out.move (Mk.put5 wx w4.heap.size (.int .i64 y'.f0) (.string y'.f1) (.int .i64 y'.f2) (.slice N_3 y'.f3.length N_c3) (.slice N_4 y'.f4.length N_c4))) (st3 _ _ (below_step HW.out HX.out) (Nat.le_refl _))))
          clear hyx st1 st2 st3 hHeld
          go_wp2_with fail
          go_roundg (m.f3.length - (i + 1))
          case measure => omega
          case rel => exact ⟨i + 1, N_3, N_c3, N_4, N_c4, by omega, Nat.le_refl _, by go_num, ⟨by rw [HYE.out]; exact HEND.out.1⟩, ⟨by rw [HYE.out]; exact HEND.out.2.1⟩, ⟨HEND.out.2.2⟩⟩
      · obtain rfl : i = m.f3.length := by omega
        have hE := HAL.out
        rw [hE] at HY HK
        have Ky := Lib.hid HY.out
        have Iy := Lib.hid HK.out.now
        clear HY HK hE
        obtain ⟨p0, p1, p2, p3, p4⟩ := fm_cells Km.out
        go_wp2_with fail
        clear p0 p1 p2 p3 p4
        by_cases hqn : q = []
        · have t1 : ((q.length : Int) == 0) = true := by simp [hqn]
          have t2 : (q.length == 0) = true := by simp [hqn]
          have b := below_drew (Below.refl wr.heap.size wr)
          replace Kx := Lib.hid (blk_below Kx.out b)
          replace Km := Lib.hid (blk_below Km.out b)
          replace Kz := Lib.hid (blk_below Kz.out b)
          replace Ku := Lib.hid (blk_below Ku.out b)
          replace Ky := Lib.hid (blk_below Ky.out b)
          replace Ix := Lib.hid (Ix.out.below b)
          replace Im := Lib.hid (Im.out.below b)
          replace Iz := Lib.hid (Iz.out.below b)
          replace Iu := Lib.hid (Iu.out.below b)
          replace Iy := Lib.hid (Iy.out.below b)
          replace HW := Lib.hid (below_step HW.out b)
          replace BW := Lib.hid (below_step BW.out b)
          clear b
          obtain ⟨p0, p1, p2, p3, p4⟩ := fm_cells Kz.out
          obtain ⟨q0, q1, q2, q3, q4⟩ := fm_cells Ky.out
          obtain ⟨r0, r1, r2, r3, r4⟩ := fm_cells Kx.out
          obtain ⟨s0, s1, s2, s3, s4⟩ := fm_cells Km.out
          refine start_ (n := 17) (S := (fun W : World => W.cell? ⟨w2.heap.size, 0, none⟩ = some (.int .i64 z.f0) ∧ W.cell? ⟨w2.heap.size, 1, none⟩ = some (.string z.f1) ∧ W.cell? ⟨w2.heap.size, 2, none⟩ = some (.int .i64 z.f2) ∧ W.cell? ⟨w2.heap.size, 3, none⟩ = some (.slice Z_3 z.f3.length Z_c3) ∧ W.cell? ⟨w2.heap.size, 4, none⟩ = some (.slice Z_4 z.f4.length Z_c4) ∧ W.cell? ⟨w4.heap.size, 0, none⟩ = some (.int .i64 z.f0) ∧ W.cell? ⟨w4.heap.size, 1, none⟩ = some (.string z.f1) ∧ W.cell? ⟨w4.heap.size, 2, none⟩ = some (.int .i64 z.f2) ∧ W.cell? ⟨w4.heap.size, 3, none⟩ = some (.slice Y_3 z.f3.length Y_c3) ∧ W.cell? ⟨w4.heap.size, 4, none⟩ = some (.slice Y_4 z.f4.length Y_c4) ∧ W.cell? ⟨w1.heap.size, 0, none⟩ = some (.int .i64 x.f0) ∧ W.cell? ⟨w1.heap.size, 1, none⟩ = some (.string x.f1) ∧ W.cell? ⟨w1.heap.size, 2, none⟩ = some (.int .i64 x.f2) ∧ W.cell? ⟨w1.heap.size, 3, none⟩ = some (.slice X_3 x.f3.length X_c3) ∧ W.cell? ⟨w1.heap.size, 4, none⟩ = some (.slice X_4 x.f4.length X_c4) ∧ W.cell? ⟨(w1.heap.size + 1), 0, none⟩ = some (.int .i64 m.f0) ∧ W.cell? ⟨(w1.heap.size + 1), 1, none⟩ = some (.string m.f1) ∧ W.cell? ⟨(w1.heap.size + 1), 2, none⟩ = some (.int .i64 m.f2) ∧ W.cell? ⟨(w1.heap.size + 1), 3, none⟩ = some (.slice M_3 m.f3.length M_c3) ∧ W.cell? ⟨(w1.heap.size + 1), 4, none⟩ = some (.slice M_4 m.f4.length M_c4))) (ds := []) #[false, false, false, false, false, false, false, false, false, false, false, false, false, false, false, false, false] (by kernel_rfl) rfl rfl ⟨p0, p1, p2, p3, p4, q0, q1, q2, q3, q4, r0, r1, r2, r3, r4, s0, s1, s2, s3, s4⟩ (fun hHeld => ?_)
          generalize World.drew _ = wd at Kx Km Kz Ku Ky Ix Im Iz Iu Iy BW HW hHeld ⊢
          clear p0 p1 p2 p3 p4 q0 q1 q2 q3 q4 r0 r1 r2 r3 r4 s0 s1 s2 s3 s4
          refine take_ (i := 0) (N := some 75) (v := ?_) (a' := ?_) #[true, false, false, false, false, false, false, false, false, false, false, false, false, false, false, false, false] rfl rfl (by kernel_rfl) (fun _ _ _ h => h) (Or.inl ⟨by rfl, ?_⟩) hHeld ?_ ?_
          rotate_left
          · rintro w' ⟨s0, s1, s2, s3, s4, s5, s6, s7, s8, s9, s10, s11, s12, s13, s14, s15, s16, s17, s18, s19⟩
            go_simp
            with_reducible rfl
          rotate_left
          · simp only [Act.put, List.setIfInBounds_toArray, List.set_cons_zero, List.set_cons_succ, i64_w, i32_w]
            rfl
          refine take_ (i := 1) (N := some 76) (v := ?_) (a' := ?_) #[true, true, false, false, false, false, false, false, false, false, false, false, false, false, false, false, false] rfl rfl (by kernel_rfl) (fun _ _ _ h => h) (Or.inl ⟨by rfl, ?_⟩) hHeld ?_ ?_
          rotate_left
          · rintro w' ⟨s0, s1, s2, s3, s4, s5, s6, s7, s8, s9, s10, s11, s12, s13, s14, s15, s16, s17, s18, s19⟩
            go_simp
            with_reducible rfl
          rotate_left
          · simp only [Act.put, List.setIfInBounds_toArray, List.set_cons_zero, List.set_cons_succ, i64_w, i32_w]
            rfl
          refine one_ (i := 2) (N := some 77) #[true, true, true, false, false, false, false, false, false, false, false, false, false, false, false, false, false] rfl rfl (by kernel_rfl) (by decide) (fun K hK => ?_)
          refine goes_ Try.func33 (by kernel_rfl) rfl #[.agg #[.int .i64 z.f0, .string z.f1, .int .i64 z.f2, .slice Z_3 z.f3.length Z_c3, .slice Z_4 z.f4.length Z_c4], .agg #[.int .i64 z.f0, .string z.f1, .int .i64 z.f2, .slice Y_3 z.f3.length Y_c3, .slice Y_4 z.f4.length Y_c4]] (by rfl) rfl rfl (by (try simp only [List.map_toArray, List.map_cons, List.map_nil]); first | done | rfl) ?_
          refine (sameT z _ _ _ _ _ _ _ _ _ Iz.out Iy.out).mono ?_
          rintro e w5 ⟨rfl, b⟩
          replace Kx := Lib.hid (blk_below Kx.out b)
          replace Km := Lib.hid (blk_below Km.out b)
          replace Kz := Lib.hid (blk_below Kz.out b)
          replace Ku := Lib.hid (blk_below Ku.out b)
          replace Ky := Lib.hid (blk_below Ky.out b)
          replace Ix := Lib.hid (Ix.out.below b)
          replace Im := Lib.hid (Im.out.below b)
          replace Iz := Lib.hid (Iz.out.below b)
          replace Iu := Lib.hid (Iu.out.below b)
          replace Iy := Lib.hid (Iy.out.below b)
          replace HW := Lib.hid (below_step HW.out b)
          replace BW := Lib.hid (below_step BW.out b)
          clear b
          refine ⟨_, rfl, ?_⟩
          obtain ⟨p0, p1, p2, p3, p4⟩ := fm_cells Kz.out
          obtain ⟨q0, q1, q2, q3, q4⟩ := fm_cells Ky.out
          obtain ⟨r0, r1, r2, r3, r4⟩ := fm_cells Kx.out
          obtain ⟨s0, s1, s2, s3, s4⟩ := fm_cells Km.out
          refine hK.out _ _ ⟨p0, p1, p2, p3, p4, q0, q1, q2, q3, q4, r0, r1, r2, r3, r4, s0, s1, s2, s3, s4⟩ (fun hHeld => ?_)
          clear hK K
          refine norm_ (a' := ?_) ?_ ?_
          rotate_left
          · show Act.put _ (some 77) _ = _
            simp only [Act.put, List.setIfInBounds_toArray, List.set_cons_zero, List.set_cons_succ, i64_w, i32_w]
            rfl
          clear p0 p1 p2 p3 p4 q0 q1 q2 q3 q4 r0 r1 r2 r3 r4 s0 s1 s2 s3 s4
          refine pure_ (i := 3) (N := some 78) (v := ?_) (a' := ?_) #[true, true, true, true, false, false, false, false, false, false, false, false, false, false, false, false, false] rfl rfl (by kernel_rfl) (fun _ _ _ h => h) (Or.inl ⟨by rfl, ?_⟩) ?_ ?_
          rotate_left
          · intro w'
            go_simp
            with_reducible rfl
          rotate_left
          · simp only [Act.put, List.setIfInBounds_toArray, List.set_cons_zero, List.set_cons_succ, i64_w, i32_w]
            rfl
          refine take_ (i := 4) (N := some 79) (v := ?_) (a' := ?_) #[true, true, true, true, true, false, false, false, false, false, false, false, false, false, false, false, false] rfl rfl (by kernel_rfl) (fun _ _ _ h => h) (Or.inl ⟨by rfl, ?_⟩) hHeld ?_ ?_
          rotate_left
          · rintro w' ⟨s0, s1, s2, s3, s4, s5, s6, s7, s8, s9, s10, s11, s12, s13, s14, s15, s16, s17, s18, s19⟩
            go_simp
            with_reducible rfl
          rotate_left
          · simp only [Act.put, List.setIfInBounds_toArray, List.set_cons_zero, List.set_cons_succ, i64_w, i32_w]
            rfl
          refine one_ (i := 5) (N := some 80) #[true, true, true, true, true, true, false, false, false, false, false, false, false, false, false, false, false] rfl rfl (by kernel_rfl) (by decide) (fun K hK => ?_)
          refine goes_ Try.func36 (by kernel_rfl) rfl #[.agg #[.int .i64 x.f0, .string x.f1, .int .i64 x.f2, .slice X_3 x.f3.length X_c3, .slice X_4 x.f4.length X_c4]] (by rfl) rfl rfl (by (try simp only [List.map_toArray, List.map_cons, List.map_nil]); first | done | rfl) ?_
          refine (implNm' hq _ _ _ _ _ Ix.out (by omega)).mono ?_
          rintro e w6 ⟨qA, qc, rfl, hqc_, hC, b⟩
          have Lq := Lib.hid hC
          clear hC
          replace Kx := Lib.hid (blk_below Kx.out b)
          replace Km := Lib.hid (blk_below Km.out b)
          replace Kz := Lib.hid (blk_below Kz.out b)
          replace Ku := Lib.hid (blk_below Ku.out b)
          replace Ky := Lib.hid (blk_below Ky.out b)
          replace Ix := Lib.hid (Ix.out.below b)
          replace Im := Lib.hid (Im.out.below b)
          replace Iz := Lib.hid (Iz.out.below b)
          replace Iu := Lib.hid (Iu.out.below b)
          replace Iy := Lib.hid (Iy.out.below b)
          replace HW := Lib.hid (below_step HW.out b)
          replace BW := Lib.hid (below_step BW.out b)
          clear b
          refine ⟨_, rfl, ?_⟩
          obtain ⟨p0, p1, p2, p3, p4⟩ := fm_cells Kz.out
          obtain ⟨q0, q1, q2, q3, q4⟩ := fm_cells Ky.out
          obtain ⟨r0, r1, r2, r3, r4⟩ := fm_cells Kx.out
          obtain ⟨s0, s1, s2, s3, s4⟩ := fm_cells Km.out
          refine hK.out _ _ ⟨p0, p1, p2, p3, p4, q0, q1, q2, q3, q4, r0, r1, r2, r3, r4, s0, s1, s2, s3, s4⟩ (fun hHeld => ?_)
          clear hK K
          refine norm_ (a' := ?_) ?_ ?_
          rotate_left
          · show Act.put _ (some 80) _ = _
            simp only [Act.put, List.setIfInBounds_toArray, List.set_cons_zero, List.set_cons_succ, i64_w, i32_w]
            rfl
          clear p0 p1 p2 p3 p4 q0 q1 q2 q3 q4 r0 r1 r2 r3 r4 s0 s1 s2 s3 s4
          refine pure_ (i := 6) (N := some 81) (v := ?_) (a' := ?_) #[true, true, true, true, true, true, true, false, false, false, false, false, false, false, false, false, false] rfl rfl (by kernel_rfl) (fun _ _ _ h => h) (Or.inl ⟨by rfl, ?_⟩) ?_ ?_
          rotate_left
          · intro w'
            go_simp
            with_reducible rfl
          rotate_left
          · simp only [Act.put, List.setIfInBounds_toArray, List.set_cons_zero, List.set_cons_succ, i64_w, i32_w]
            rfl
          refine pure_ (i := 7) (N := some 82) (v := .bool true) (a' := ?_) #[true, true, true, true, true, true, true, true, false, false, false, false, false, false, false, false, false] rfl rfl (by kernel_rfl) (fun _ _ _ h => h) (Or.inl ⟨by rfl, ?_⟩) ?_ ?_
          · intro w'
            go_simp
            skip
          rotate_left
          · simp only [Act.put, List.setIfInBounds_toArray, List.set_cons_zero, List.set_cons_succ, i64_w, i32_w]
            rfl
          refine pure_ (i := 8) (N := some 83) (v := ?_) (a' := ?_) #[true, true, true, true, true, true, true, true, true, false, false, false, false, false, false, false, false] rfl rfl (by kernel_rfl) (fun _ _ _ h => h) (Or.inl ⟨by rfl, ?_⟩) ?_ ?_
          rotate_left
          · intro w'
            go_simp
            with_reducible rfl
          rotate_left
          · simp only [Act.put, List.setIfInBounds_toArray, List.set_cons_zero, List.set_cons_succ, i64_w, i32_w]
            rfl
          refine pure_ (i := 9) (N := some 84) (v := undef) (a' := ?_) #[true, true, true, true, true, true, true, true, true, true, false, false, false, false, false, false, false] rfl rfl (by kernel_rfl) (fun _ _ _ h => h) (Or.inr ⟨by rfl, rfl⟩) ?_ ?_
          rotate_left
          · simp only [Act.put, List.setIfInBounds_toArray, List.set_cons_zero, List.set_cons_succ, i64_w, i32_w]
            rfl
          refine pure_ (i := 10) (N := some 85) (v := undef) (a' := ?_) #[true, true, true, true, true, true, true, true, true, true, true, false, false, false, false, false, false] rfl rfl (by kernel_rfl) (fun _ _ _ h => h) (Or.inr ⟨by rfl, rfl⟩) ?_ ?_
          rotate_left
          · simp only [Act.put, List.setIfInBounds_toArray, List.set_cons_zero, List.set_cons_succ, i64_w, i32_w]
            rfl
          refine pure_ (i := 11) (N := some 86) (v := undef) (a' := ?_) #[true, true, true, true, true, true, true, true, true, true, true, true, false, false, false, false, false] rfl rfl (by kernel_rfl) (fun _ _ _ h => h) (Or.inr ⟨by rfl, rfl⟩) ?_ ?_
          rotate_left
          · simp only [Act.put, List.setIfInBounds_toArray, List.set_cons_zero, List.set_cons_succ, i64_w, i32_w]
            rfl
          refine one_ (i := 12) (N := some 87) #[true, true, true, true, true, true, true, true, true, true, true, true, true, false, false, false, false] rfl rfl (by kernel_rfl) (by decide) (fun K hK => ?_)
          refine off_ (by rfl) ?_
          obtain ⟨p0, p1, p2, p3, p4⟩ := fm_cells Kz.out
          obtain ⟨q0, q1, q2, q3, q4⟩ := fm_cells Ky.out
          obtain ⟨r0, r1, r2, r3, r4⟩ := fm_cells Kx.out
          obtain ⟨s0, s1, s2, s3, s4⟩ := fm_cells Km.out
          refine hK.out _ _ ⟨p0, p1, p2, p3, p4, q0, q1, q2, q3, q4, r0, r1, r2, r3, r4, s0, s1, s2, s3, s4⟩ (fun hHeld => ?_)
          clear hK K
          refine norm_ (a' := ?_) ?_ ?_
          rotate_left
          · show Act.put _ (some 87) _ = _
            simp only [Act.put, List.setIfInBounds_toArray, List.set_cons_zero, List.set_cons_succ, i64_w, i32_w]
            rfl
          clear p0 p1 p2 p3 p4 q0 q1 q2 q3 q4 r0 r1 r2 r3 r4 s0 s1 s2 s3 s4
          refine one_ (i := 13) (N := some 88) #[true, true, true, true, true, true, true, true, true, true, true, true, true, true, false, false, false] rfl rfl (by kernel_rfl) (by decide) (fun K hK => ?_)
          refine off_ (by rfl) ?_
          obtain ⟨p0, p1, p2, p3, p4⟩ := fm_cells Kz.out
          obtain ⟨q0, q1, q2, q3, q4⟩ := fm_cells Ky.out
          obtain ⟨r0, r1, r2, r3, r4⟩ := fm_cells Kx.out
          obtain ⟨s0, s1, s2, s3, s4⟩ := fm_cells Km.out
          refine hK.out _ _ ⟨p0, p1, p2, p3, p4, q0, q1, q2, q3, q4, r0, r1, r2, r3, r4, s0, s1, s2, s3, s4⟩ (fun hHeld => ?_)
          clear hK K
          refine norm_ (a' := ?_) ?_ ?_
          rotate_left
          · show Act.put _ (some 88) _ = _
            simp only [Act.put, List.setIfInBounds_toArray, List.set_cons_zero, List.set_cons_succ, i64_w, i32_w]
            rfl
          clear p0 p1 p2 p3 p4 q0 q1 q2 q3 q4 r0 r1 r2 r3 r4 s0 s1 s2 s3 s4
          refine pure_ (i := 14) (N := some 89) (v := ?_) (a' := ?_) #[true, true, true, true, true, true, true, true, true, true, true, true, true, true, true, false, false] rfl rfl (by kernel_rfl) (fun _ _ _ h => h) (Or.inl ⟨by rfl, ?_⟩) ?_ ?_
          rotate_left
          · intro w'
            go_simp
            with_reducible rfl
          rotate_left
          · simp only [Act.put, List.setIfInBounds_toArray, List.set_cons_zero, List.set_cons_succ, i64_w, i32_w]
            rfl
          refine pure_ (i := 15) (N := some 90) (v := ?_) (a' := ?_) #[true, true, true, true, true, true, true, true, true, true, true, true, true, true, true, true, false] rfl rfl (by kernel_rfl) (fun _ _ _ h => h) (Or.inl ⟨by rfl, ?_⟩) ?_ ?_
          rotate_left
          · intro w'
            go_simp
            with_reducible rfl
          rotate_left
          · simp only [Act.put, List.setIfInBounds_toArray, List.set_cons_zero, List.set_cons_succ, i64_w, i32_w]
            rfl
          refine pure_ (i := 16) (N := some 2) (v := ?_) (a' := ?_) #[true, true, true, true, true, true, true, true, true, true, true, true, true, true, true, true, true] rfl rfl (by kernel_rfl) (fun _ _ _ h => h) (Or.inl ⟨by rfl, ?_⟩) ?_ ?_
          rotate_left
          · intro w'
            go_simp
            with_reducible rfl
          rotate_left
          · simp only [Act.put, List.setIfInBounds_toArray, List.set_cons_zero, List.set_cons_succ, i64_w, i32_w]
            rfl
          refine done_ (by kernel_rfl) ?_
          go_wp2_with fail
          go_ret
          exact ⟨rfl, by repeat (first | exact BW.out | refine below_alloc ?_ _)⟩
        · have t1 : ((q.length : Int) == 0) = false := by
            rw [beq_eq_false_iff_ne]; intro h; exact hqn (List.eq_nil_of_length_eq_zero (by omega))
          have t2 : (q.length == 0) = false := by
            rw [beq_eq_false_iff_ne]; intro h; exact hqn (List.eq_nil_of_length_eq_zero h)
          have t3 : (q == []) = false := by cases q <;> simp_all
          have b := below_drew (Below.refl wr.heap.size wr)
          replace Kx := Lib.hid (blk_below Kx.out b)
          replace Km := Lib.hid (blk_below Km.out b)
          replace Kz := Lib.hid (blk_below Kz.out b)
          replace Ku := Lib.hid (blk_below Ku.out b)
          replace Ky := Lib.hid (blk_below Ky.out b)
          replace Ix := Lib.hid (Ix.out.below b)
          replace Im := Lib.hid (Im.out.below b)
          replace Iz := Lib.hid (Iz.out.below b)
          replace Iu := Lib.hid (Iu.out.below b)
          replace Iy := Lib.hid (Iy.out.below b)
          replace HW := Lib.hid (below_step HW.out b)
          replace BW := Lib.hid (below_step BW.out b)
          clear b
          obtain ⟨p0, p1, p2, p3, p4⟩ := fm_cells Kz.out
          obtain ⟨q0, q1, q2, q3, q4⟩ := fm_cells Ky.out
          obtain ⟨r0, r1, r2, r3, r4⟩ := fm_cells Kx.out
          obtain ⟨s0, s1, s2, s3, s4⟩ := fm_cells Km.out
          refine start_ (n := 17) (S := (fun W : World => W.cell? ⟨w2.heap.size, 0, none⟩ = some (.int .i64 z.f0) ∧ W.cell? ⟨w2.heap.size, 1, none⟩ = some (.string z.f1) ∧ W.cell? ⟨w2.heap.size, 2, none⟩ = some (.int .i64 z.f2) ∧ W.cell? ⟨w2.heap.size, 3, none⟩ = some (.slice Z_3 z.f3.length Z_c3) ∧ W.cell? ⟨w2.heap.size, 4, none⟩ = some (.slice Z_4 z.f4.length Z_c4) ∧ W.cell? ⟨w4.heap.size, 0, none⟩ = some (.int .i64 z.f0) ∧ W.cell? ⟨w4.heap.size, 1, none⟩ = some (.string z.f1) ∧ W.cell? ⟨w4.heap.size, 2, none⟩ = some (.int .i64 z.f2) ∧ W.cell? ⟨w4.heap.size, 3, none⟩ = some (.slice Y_3 z.f3.length Y_c3) ∧ W.cell? ⟨w4.heap.size, 4, none⟩ = some (.slice Y_4 z.f4.length Y_c4) ∧ W.cell? ⟨w1.heap.size, 0, none⟩ = some (.int .i64 x.f0) ∧ W.cell? ⟨w1.heap.size, 1, none⟩ = some (.string x.f1) ∧ W.cell? ⟨w1.heap.size, 2, none⟩ = some (.int .i64 x.f2) ∧ W.cell? ⟨w1.heap.size, 3, none⟩ = some (.slice X_3 x.f3.length X_c3) ∧ W.cell? ⟨w1.heap.size, 4, none⟩ = some (.slice X_4 x.f4.length X_c4) ∧ W.cell? ⟨(w1.heap.size + 1), 0, none⟩ = some (.int .i64 m.f0) ∧ W.cell? ⟨(w1.heap.size + 1), 1, none⟩ = some (.string m.f1) ∧ W.cell? ⟨(w1.heap.size + 1), 2, none⟩ = some (.int .i64 m.f2) ∧ W.cell? ⟨(w1.heap.size + 1), 3, none⟩ = some (.slice M_3 m.f3.length M_c3) ∧ W.cell? ⟨(w1.heap.size + 1), 4, none⟩ = some (.slice M_4 m.f4.length M_c4))) (ds := []) #[false, false, false, false, false, false, false, false, false, false, false, false, false, false, false, false, false] (by kernel_rfl) rfl rfl ⟨p0, p1, p2, p3, p4, q0, q1, q2, q3, q4, r0, r1, r2, r3, r4, s0, s1, s2, s3, s4⟩ (fun hHeld => ?_)
          generalize World.drew _ = wd at Kx Km Kz Ku Ky Ix Im Iz Iu Iy BW HW hHeld ⊢
          clear p0 p1 p2 p3 p4 q0 q1 q2 q3 q4 r0 r1 r2 r3 r4 s0 s1 s2 s3 s4
          refine take_ (i := 0) (N := some 75) (v := ?_) (a' := ?_) #[true, false, false, false, false, false, false, false, false, false, false, false, false, false, false, false, false] rfl rfl (by kernel_rfl) (fun _ _ _ h => h) (Or.inl ⟨by rfl, ?_⟩) hHeld ?_ ?_
          rotate_left
          · rintro w' ⟨s0, s1, s2, s3, s4, s5, s6, s7, s8, s9, s10, s11, s12, s13, s14, s15, s16, s17, s18, s19⟩
            go_simp
            with_reducible rfl
          rotate_left
          · simp only [Act.put, List.setIfInBounds_toArray, List.set_cons_zero, List.set_cons_succ, i64_w, i32_w]
            rfl
          refine take_ (i := 1) (N := some 76) (v := ?_) (a' := ?_) #[true, true, false, false, false, false, false, false, false, false, false, false, false, false, false, false, false] rfl rfl (by kernel_rfl) (fun _ _ _ h => h) (Or.inl ⟨by rfl, ?_⟩) hHeld ?_ ?_
          rotate_left
          · rintro w' ⟨s0, s1, s2, s3, s4, s5, s6, s7, s8, s9, s10, s11, s12, s13, s14, s15, s16, s17, s18, s19⟩
            go_simp
            with_reducible rfl
          rotate_left
          · simp only [Act.put, List.setIfInBounds_toArray, List.set_cons_zero, List.set_cons_succ, i64_w, i32_w]
            rfl
          refine one_ (i := 2) (N := some 77) #[true, true, true, false, false, false, false, false, false, false, false, false, false, false, false, false, false] rfl rfl (by kernel_rfl) (by decide) (fun K hK => ?_)
          refine goes_ Try.func33 (by kernel_rfl) rfl #[.agg #[.int .i64 z.f0, .string z.f1, .int .i64 z.f2, .slice Z_3 z.f3.length Z_c3, .slice Z_4 z.f4.length Z_c4], .agg #[.int .i64 z.f0, .string z.f1, .int .i64 z.f2, .slice Y_3 z.f3.length Y_c3, .slice Y_4 z.f4.length Y_c4]] (by rfl) rfl rfl (by (try simp only [List.map_toArray, List.map_cons, List.map_nil]); first | done | rfl) ?_
          refine (sameT z _ _ _ _ _ _ _ _ _ Iz.out Iy.out).mono ?_
          rintro e w5 ⟨rfl, b⟩
          replace Kx := Lib.hid (blk_below Kx.out b)
          replace Km := Lib.hid (blk_below Km.out b)
          replace Kz := Lib.hid (blk_below Kz.out b)
          replace Ku := Lib.hid (blk_below Ku.out b)
          replace Ky := Lib.hid (blk_below Ky.out b)
          replace Ix := Lib.hid (Ix.out.below b)
          replace Im := Lib.hid (Im.out.below b)
          replace Iz := Lib.hid (Iz.out.below b)
          replace Iu := Lib.hid (Iu.out.below b)
          replace Iy := Lib.hid (Iy.out.below b)
          replace HW := Lib.hid (below_step HW.out b)
          replace BW := Lib.hid (below_step BW.out b)
          clear b
          refine ⟨_, rfl, ?_⟩
          obtain ⟨p0, p1, p2, p3, p4⟩ := fm_cells Kz.out
          obtain ⟨q0, q1, q2, q3, q4⟩ := fm_cells Ky.out
          obtain ⟨r0, r1, r2, r3, r4⟩ := fm_cells Kx.out
          obtain ⟨s0, s1, s2, s3, s4⟩ := fm_cells Km.out
          refine hK.out _ _ ⟨p0, p1, p2, p3, p4, q0, q1, q2, q3, q4, r0, r1, r2, r3, r4, s0, s1, s2, s3, s4⟩ (fun hHeld => ?_)
          clear hK K
          refine norm_ (a' := ?_) ?_ ?_
          rotate_left
          · show Act.put _ (some 77) _ = _
            simp only [Act.put, List.setIfInBounds_toArray, List.set_cons_zero, List.set_cons_succ, i64_w, i32_w]
            rfl
          clear p0 p1 p2 p3 p4 q0 q1 q2 q3 q4 r0 r1 r2 r3 r4 s0 s1 s2 s3 s4
          refine pure_ (i := 3) (N := some 78) (v := ?_) (a' := ?_) #[true, true, true, true, false, false, false, false, false, false, false, false, false, false, false, false, false] rfl rfl (by kernel_rfl) (fun _ _ _ h => h) (Or.inl ⟨by rfl, ?_⟩) ?_ ?_
          rotate_left
          · intro w'
            go_simp
            with_reducible rfl
          rotate_left
          · simp only [Act.put, List.setIfInBounds_toArray, List.set_cons_zero, List.set_cons_succ, i64_w, i32_w]
            rfl
          refine take_ (i := 4) (N := some 79) (v := ?_) (a' := ?_) #[true, true, true, true, true, false, false, false, false, false, false, false, false, false, false, false, false] rfl rfl (by kernel_rfl) (fun _ _ _ h => h) (Or.inl ⟨by rfl, ?_⟩) hHeld ?_ ?_
          rotate_left
          · rintro w' ⟨s0, s1, s2, s3, s4, s5, s6, s7, s8, s9, s10, s11, s12, s13, s14, s15, s16, s17, s18, s19⟩
            go_simp
            with_reducible rfl
          rotate_left
          · simp only [Act.put, List.setIfInBounds_toArray, List.set_cons_zero, List.set_cons_succ, i64_w, i32_w]
            rfl
          refine one_ (i := 5) (N := some 80) #[true, true, true, true, true, true, false, false, false, false, false, false, false, false, false, false, false] rfl rfl (by kernel_rfl) (by decide) (fun K hK => ?_)
          refine goes_ Try.func36 (by kernel_rfl) rfl #[.agg #[.int .i64 x.f0, .string x.f1, .int .i64 x.f2, .slice X_3 x.f3.length X_c3, .slice X_4 x.f4.length X_c4]] (by rfl) rfl rfl (by (try simp only [List.map_toArray, List.map_cons, List.map_nil]); first | done | rfl) ?_
          refine (implNm' hq _ _ _ _ _ Ix.out (by omega)).mono ?_
          rintro e w6 ⟨qA, qc, rfl, hqc_, hC, b⟩
          have Lq := Lib.hid hC
          clear hC
          replace Kx := Lib.hid (blk_below Kx.out b)
          replace Km := Lib.hid (blk_below Km.out b)
          replace Kz := Lib.hid (blk_below Kz.out b)
          replace Ku := Lib.hid (blk_below Ku.out b)
          replace Ky := Lib.hid (blk_below Ky.out b)
          replace Ix := Lib.hid (Ix.out.below b)
          replace Im := Lib.hid (Im.out.below b)
          replace Iz := Lib.hid (Iz.out.below b)
          replace Iu := Lib.hid (Iu.out.below b)
          replace Iy := Lib.hid (Iy.out.below b)
          replace HW := Lib.hid (below_step HW.out b)
          replace BW := Lib.hid (below_step BW.out b)
          clear b
          refine ⟨_, rfl, ?_⟩
          obtain ⟨p0, p1, p2, p3, p4⟩ := fm_cells Kz.out
          obtain ⟨q0, q1, q2, q3, q4⟩ := fm_cells Ky.out
          obtain ⟨r0, r1, r2, r3, r4⟩ := fm_cells Kx.out
          obtain ⟨s0, s1, s2, s3, s4⟩ := fm_cells Km.out
          refine hK.out _ _ ⟨p0, p1, p2, p3, p4, q0, q1, q2, q3, q4, r0, r1, r2, r3, r4, s0, s1, s2, s3, s4⟩ (fun hHeld => ?_)
          clear hK K
          refine norm_ (a' := ?_) ?_ ?_
          rotate_left
          · show Act.put _ (some 80) _ = _
            simp only [Act.put, List.setIfInBounds_toArray, List.set_cons_zero, List.set_cons_succ, i64_w, i32_w]
            rfl
          clear p0 p1 p2 p3 p4 q0 q1 q2 q3 q4 r0 r1 r2 r3 r4 s0 s1 s2 s3 s4
          refine pure_ (i := 6) (N := some 81) (v := ?_) (a' := ?_) #[true, true, true, true, true, true, true, false, false, false, false, false, false, false, false, false, false] rfl rfl (by kernel_rfl) (fun _ _ _ h => h) (Or.inl ⟨by rfl, ?_⟩) ?_ ?_
          rotate_left
          · intro w'
            go_simp
            with_reducible rfl
          rotate_left
          · simp only [Act.put, List.setIfInBounds_toArray, List.set_cons_zero, List.set_cons_succ, i64_w, i32_w]
            rfl
          refine pure_ (i := 7) (N := some 82) (v := .bool false) (a' := ?_) #[true, true, true, true, true, true, true, true, false, false, false, false, false, false, false, false, false] rfl rfl (by kernel_rfl) (fun _ _ _ h => h) (Or.inl ⟨by rfl, ?_⟩) ?_ ?_
          · intro w'
            go_simp
            skip
          rotate_left
          · simp only [Act.put, List.setIfInBounds_toArray, List.set_cons_zero, List.set_cons_succ, i64_w, i32_w]
            rfl
          refine pure_ (i := 8) (N := some 83) (v := ?_) (a' := ?_) #[true, true, true, true, true, true, true, true, true, false, false, false, false, false, false, false, false] rfl rfl (by kernel_rfl) (fun _ _ _ h => h) (Or.inl ⟨by rfl, ?_⟩) ?_ ?_
          rotate_left
          · intro w'
            go_simp
            with_reducible rfl
          rotate_left
          · simp only [Act.put, List.setIfInBounds_toArray, List.set_cons_zero, List.set_cons_succ, i64_w, i32_w]
            rfl
          refine pure_ (i := 9) (N := some 84) (v := ?_) (a' := ?_) #[true, true, true, true, true, true, true, true, true, true, false, false, false, false, false, false, false] rfl rfl (by kernel_rfl) (fun _ _ _ h => h) (Or.inl ⟨by rfl, ?_⟩) ?_ ?_
          rotate_left
          · intro w'
            go_simp
            with_reducible rfl
          rotate_left
          · simp only [Act.put, List.setIfInBounds_toArray, List.set_cons_zero, List.set_cons_succ, i64_w, i32_w]
            rfl
          refine take_ (i := 10) (N := some 85) (v := ?_) (a' := ?_) #[true, true, true, true, true, true, true, true, true, true, true, false, false, false, false, false, false] rfl rfl (by kernel_rfl) (fun _ _ _ h => h) (Or.inl ⟨by rfl, ?_⟩) hHeld ?_ ?_
          rotate_left
          · rintro w' ⟨s0, s1, s2, s3, s4, s5, s6, s7, s8, s9, s10, s11, s12, s13, s14, s15, s16, s17, s18, s19⟩
            go_simp
            with_reducible rfl
          rotate_left
          · simp only [Act.put, List.setIfInBounds_toArray, List.set_cons_zero, List.set_cons_succ, i64_w, i32_w]
            rfl
          refine take_ (i := 11) (N := some 86) (v := ?_) (a' := ?_) #[true, true, true, true, true, true, true, true, true, true, true, true, false, false, false, false, false] rfl rfl (by kernel_rfl) (fun _ _ _ h => h) (Or.inl ⟨by rfl, ?_⟩) hHeld ?_ ?_
          rotate_left
          · rintro w' ⟨s0, s1, s2, s3, s4, s5, s6, s7, s8, s9, s10, s11, s12, s13, s14, s15, s16, s17, s18, s19⟩
            go_simp
            with_reducible rfl
          rotate_left
          · simp only [Act.put, List.setIfInBounds_toArray, List.set_cons_zero, List.set_cons_succ, i64_w, i32_w]
            rfl
          refine one_ (i := 12) (N := some 87) #[true, true, true, true, true, true, true, true, true, true, true, true, true, false, false, false, false] rfl rfl (by kernel_rfl) (by decide) (fun K hK => ?_)
          refine goes_ Try.func34 (by kernel_rfl) rfl #[.agg #[.int .i64 z.f0, .string z.f1, .int .i64 z.f2, .slice Z_3 z.f3.length Z_c3, .slice Z_4 z.f4.length Z_c4]] (by rfl) rfl rfl (by (try simp only [List.map_toArray, List.map_cons, List.map_nil]); first | done | rfl) ?_
          refine (implSc' hl _ _ _ _ _ Iz.out (by omega)).mono ?_
          rintro e w7 ⟨lA, lc, rfl, hlc_, hC, b⟩
          have Ll := Lib.hid hC
          clear hC
          replace Kx := Lib.hid (blk_below Kx.out b)
          replace Km := Lib.hid (blk_below Km.out b)
          replace Kz := Lib.hid (blk_below Kz.out b)
          replace Ku := Lib.hid (blk_below Ku.out b)
          replace Ky := Lib.hid (blk_below Ky.out b)
          replace Ix := Lib.hid (Ix.out.below b)
          replace Im := Lib.hid (Im.out.below b)
          replace Iz := Lib.hid (Iz.out.below b)
          replace Iu := Lib.hid (Iu.out.below b)
          replace Iy := Lib.hid (Iy.out.below b)
          replace HW := Lib.hid (below_step HW.out b)
          replace Lq := Lib.hid (Kd.C_below Lq.out b)
          replace BW := Lib.hid (below_step BW.out b)
          clear b
          refine ⟨_, rfl, ?_⟩
          obtain ⟨p0, p1, p2, p3, p4⟩ := fm_cells Kz.out
          obtain ⟨q0, q1, q2, q3, q4⟩ := fm_cells Ky.out
          obtain ⟨r0, r1, r2, r3, r4⟩ := fm_cells Kx.out
          obtain ⟨s0, s1, s2, s3, s4⟩ := fm_cells Km.out
          refine hK.out _ _ ⟨p0, p1, p2, p3, p4, q0, q1, q2, q3, q4, r0, r1, r2, r3, r4, s0, s1, s2, s3, s4⟩ (fun hHeld => ?_)
          clear hK K
          refine norm_ (a' := ?_) ?_ ?_
          rotate_left
          · show Act.put _ (some 87) _ = _
            simp only [Act.put, List.setIfInBounds_toArray, List.set_cons_zero, List.set_cons_succ, i64_w, i32_w]
            rfl
          clear p0 p1 p2 p3 p4 q0 q1 q2 q3 q4 r0 r1 r2 r3 r4 s0 s1 s2 s3 s4
          refine one_ (i := 13) (N := some 88) #[true, true, true, true, true, true, true, true, true, true, true, true, true, true, false, false, false] rfl rfl (by kernel_rfl) (by decide) (fun K hK => ?_)
          refine goes_ Try.func28 (by kernel_rfl) rfl #[.slice M_3 m.f3.length M_c3, .slice lA l.length lc] (by rfl) rfl rfl (by (try simp only [List.map_toArray, List.map_cons, List.map_nil]); first | done | rfl) ?_
          refine (implW' (HHS.out hqn) _ _ _ _ _ Im.out.g3 Im.out.l3 Ll.out hlc_).mono ?_
          rintro e w8 ⟨rfl, b⟩
          replace Kx := Lib.hid (blk_below Kx.out b)
          replace Km := Lib.hid (blk_below Km.out b)
          replace Kz := Lib.hid (blk_below Kz.out b)
          replace Ku := Lib.hid (blk_below Ku.out b)
          replace Ky := Lib.hid (blk_below Ky.out b)
          replace Ix := Lib.hid (Ix.out.below b)
          replace Im := Lib.hid (Im.out.below b)
          replace Iz := Lib.hid (Iz.out.below b)
          replace Iu := Lib.hid (Iu.out.below b)
          replace Iy := Lib.hid (Iy.out.below b)
          replace HW := Lib.hid (below_step HW.out b)
          replace Lq := Lib.hid (Kd.C_below Lq.out b)
          replace Ll := Lib.hid (Kd.C_below Ll.out b)
          replace BW := Lib.hid (below_step BW.out b)
          clear b
          refine ⟨_, rfl, ?_⟩
          obtain ⟨p0, p1, p2, p3, p4⟩ := fm_cells Kz.out
          obtain ⟨q0, q1, q2, q3, q4⟩ := fm_cells Ky.out
          obtain ⟨r0, r1, r2, r3, r4⟩ := fm_cells Kx.out
          obtain ⟨s0, s1, s2, s3, s4⟩ := fm_cells Km.out
          refine hK.out _ _ ⟨p0, p1, p2, p3, p4, q0, q1, q2, q3, q4, r0, r1, r2, r3, r4, s0, s1, s2, s3, s4⟩ (fun hHeld => ?_)
          clear hK K
          refine norm_ (a' := ?_) ?_ ?_
          rotate_left
          · show Act.put _ (some 88) _ = _
            simp only [Act.put, List.setIfInBounds_toArray, List.set_cons_zero, List.set_cons_succ, i64_w, i32_w]
            rfl
          clear p0 p1 p2 p3 p4 q0 q1 q2 q3 q4 r0 r1 r2 r3 r4 s0 s1 s2 s3 s4
          refine pure_ (i := 14) (N := some 89) (v := ?_) (a' := ?_) #[true, true, true, true, true, true, true, true, true, true, true, true, true, true, true, false, false] rfl rfl (by kernel_rfl) (fun _ _ _ h => h) (Or.inl ⟨by rfl, ?_⟩) ?_ ?_
          rotate_left
          · intro w'
            go_simp
            with_reducible rfl
          rotate_left
          · simp only [Act.put, List.setIfInBounds_toArray, List.set_cons_zero, List.set_cons_succ, i64_w, i32_w]
            rfl
          refine pure_ (i := 15) (N := some 90) (v := ?_) (a' := ?_) #[true, true, true, true, true, true, true, true, true, true, true, true, true, true, true, true, false] rfl rfl (by kernel_rfl) (fun _ _ _ h => h) (Or.inl ⟨by rfl, ?_⟩) ?_ ?_
          rotate_left
          · intro w'
            go_simp
            with_reducible rfl
          rotate_left
          · simp only [Act.put, List.setIfInBounds_toArray, List.set_cons_zero, List.set_cons_succ, i64_w, i32_w]
            rfl
          refine pure_ (i := 16) (N := some 2) (v := ?_) (a' := ?_) #[true, true, true, true, true, true, true, true, true, true, true, true, true, true, true, true, true] rfl rfl (by kernel_rfl) (fun _ _ _ h => h) (Or.inl ⟨by rfl, ?_⟩) ?_ ?_
          rotate_left
          · intro w'
            go_simp
            with_reducible rfl
          rotate_left
          · simp only [Act.put, List.setIfInBounds_toArray, List.set_cons_zero, List.set_cons_succ, i64_w, i32_w]
            rfl
          refine done_ (by kernel_rfl) ?_
          go_wp2_with fail
          go_ret
          exact ⟨rfl, by repeat (first | exact BW.out | refine below_alloc ?_ _)⟩
end Go.Proofs.Yteonncnhhccgeaa
end
section
namespace Go.Proofs.Yteonncnhhccgeaa.fnDressLike
open Go.ChangeShapes Go.WideShapes Go.ChangeAt Go.RowKit Go.Proofs.Yteonncnhhccgeaa
open Go.ChangeMaps (open_string shut_string)
set_option linter.unusedVariables false
theorem own : ownKnob Try.prog.godebug = none := by kernel_rfl
theorem laidOut : laidOutB Try.prog = true := by kernel_rfl
def IsRow (k : IntKind) (w : World) (a : Option Addr) (len cap : Nat) (zs : List Int) : Prop :=
  (a = none ∧ len = 0 ∧ cap = 0 ∧ zs = []) ∨
  ∃ x, a = some x ∧ len ≤ cap ∧ cap ≤ maxLen ∧ zs.length = cap ∧ (∀ i, i < zs.length → w.cell? (x.add i) = some (.int k (zs.getD i 0))) ∧ ∀ n ∈ zs, (Lit.int k n).wf = true
set_option maxRecDepth 100000 in
theorem lifted (os : Os) (started : os.Started) (H : Type) (enc : TypeId × Value → H) :
    ReturnsInHanded {} Try.checked os 11 .any (Rows.fnDressLikeSpec.pre6 enc Try.prog Try.f11 Rows.fnDressLikeRow.domain false) (Rows.fnDressLikeSpec.post enc Try.prog Try.f11 false true false false) := by
  refine returnsInHanded_of_change_sized (C := Try.checked) own started (by kernel_rfl) Try.func11
    (ChangeSpec.witness6 (enc := enc) (C := Try.checked) false ⟨#[], #[.slice none 0 0], []⟩ 8 (by kernel_rfl) (by kernel_rfl) (by kernel_rfl) (by kernel_rfl)) ?_
  intro W base args ds gs before hval0 hW hcnd hsz0 _
  have hsz : (DataW.weightsEach Try.prog (Try.f11.params.toList ++ Rows.fnDressLikeSpec.plain.varTypes Try.prog) (ds ++ gs)).all (· ≤ reachBytes) = true := hsz0
  have hval : ∀ (j : Nat) t v, Try.f11.params[j]? = some t → args[j]? = some v → Value.okWide Try.prog W .any base t v := hval0
  have hW' := hW
  obtain ⟨p, q, hA0, hV, rfl, hfz, hnd⟩ := hW
  have hA : DataW.TrodAll enc Try.prog W 0 (fun _ => true) true Try.f11.params.toList args.toList ds p := hA0
  rw [Try.params11] at hA hval hsz
  obtain ⟨v0, vs0, d0, ds0, p0, q0, hargs, rfl, rfl, h0, r0⟩ := trodAll_cons hA
  obtain ⟨rfl, rfl, rfl⟩ := trodAll_nil r0
  obtain rfl : args = #[v0] := by cases args; simp_all
  obtain ⟨rfl, rfl⟩ := trodVars_none hV
  obtain ⟨a0, len0, cap0, rfl⟩ := okWide_slice Try.underlying22 (hval 0 22 v0 rfl rfl)
  have k0 := h0
  have lt0 : ∀ x ∈ p0, x.block < W.heap.size := by obtain ⟨m, hm⟩ := k0; exact DataW.trod_lt m _ _ _ hm
  obtain ⟨z0, w0⟩ : ∃ zs, IsRow .u8 W a0 len0 cap0 zs := by
    obtain ⟨fuel, hf⟩ := h0
    rcases open_ints Try.underlying22 Try.underlying5 (by kernel_rfl) hf with ⟨hcs, _⟩ | ⟨x, l, c, zs, hcs, _, hl, hm, hz, _, hcell, hwz⟩
    · simp [Value.cells] at hcs
      obtain ⟨rfl, rfl, rfl⟩ := hcs
      exact ⟨[], .inl ⟨rfl, rfl, rfl, rfl⟩⟩
    · simp [Value.cells] at hcs
      obtain ⟨rfl, rfl, rfl⟩ := hcs
      exact ⟨zs, .inr ⟨_, rfl, hl, hm, by simpa using hz, hcell, hwz⟩⟩
  have y0 : len0 * 1 ≤ 140737488351232 := Go.Proofs.YteonncnhhccgeaaW.PrintWords.sized_ints hsz (j := 0) (t := 22) rfl rfl Try.underlying22 Try.underlying5 (by kernel_rfl) (by kernel_rfl) h0
  obtain ⟨l0, rfl, hr0, hm0, hw0, hc0⟩ := Go.Proofs.YteonncnhhccgeaaW.PrintWords.ReadsInt.ofRowC w0
  clear hA0 hval0 hsz0 hsz
  refine (fnDressLike_walk _ _ l0 W (Go.Proofs.YteonncnhhccgeaaW.PrintWords.Kd.C_of_reads (d := (0 : Int)) (h1 := fun _ => rfl) hr0) hc0 y0 hw0).mono fun e W' ⟨he, bel⟩ => ?_
  subst he
  exact ⟨_, rfl, _, _, _, [], _, [], hW', trodAll_mk1 (shut_bool Try.underlying4 _), (trodAll_cons_mk (Below.trod laidOut (by kernel_rfl) (of_decide_eq_true (by kernel_rfl)) k0 bel lt0) trodAll_mk0), rfl, bel.frame _, fun h => by cases h⟩
set_option maxRecDepth 100000 in
theorem closed : joinedFacts Try.prog 11 Try.f11 Rows.fnDressLikeSpec Rows.fnDressLikeRow = true := by
  unfold joinedFacts
  refine Bool.and_eq_true_iff.2 ⟨Bool.and_eq_true_iff.2 ⟨Bool.and_eq_true_iff.2 ⟨Bool.and_eq_true_iff.2 ⟨Bool.and_eq_true_iff.2 ⟨Bool.and_eq_true_iff.2 ⟨Bool.and_eq_true_iff.2 ⟨?_, mayEnter_yes⟩, (congrArg (fun b => Rows.fnDressLikeRow.lifted == b) liftsFinal_no).trans (by kernel_rfl)⟩, (congrArg (fun b => b == some Rows.fnDressLikeRow.make) make_cut).trans (by kernel_rfl)⟩, ?_⟩, ?_⟩, ?_⟩, ?_⟩
  all_goals kernel_rfl
theorem over : Rows.fnDressLikeRow.holds Try.pinned (OpenSpec.ofChange Rows.fnDressLikeSpec) :=
  OpenClaim.holds_of_wide 11 Try.f11 rfl rfl rfl rfl rfl rfl rfl ⟨rfl, rfl, rfl, rfl, rfl⟩ rfl rfl rfl rfl rfl (by kernel_rfl) Try.func11 closed
    (of_decide_eq_true (by kernel_rfl)) (by unfold Func.isWrapper; first | (rw [if_pos (by decide +kernel)]; kernel_rfl) | (rw [if_neg (by decide +kernel)]; exact ⟨rfl, rfl⟩))
    (fun os started H enc _ => lifted os started H enc)
end Go.Proofs.Yteonncnhhccgeaa.fnDressLike
namespace Go.Proofs.Yteonncnhhccgeaa
/-- The row. -/
theorem fnDressLike_holds : Rows.FnDressLikeSaid := fnDressLike.over
#print axioms fnDressLike_holds
end Go.Proofs.Yteonncnhhccgeaa
end
