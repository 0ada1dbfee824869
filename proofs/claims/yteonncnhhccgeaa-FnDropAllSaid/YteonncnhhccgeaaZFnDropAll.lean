/- When all scopes of a form are taken off, the form without scopes is left. For every input the law FnDropAll returns true, and leaves its input alone. No condition. -/
import Derived.Below
import Derived.ChangeOld
import Derived.JoinedOf
import Derived.KernelRfl
import Derived.OpenShut
import Derived.ProofKit
import Derived.RowKit3
import Derived.ShutString
import Derived.SizedLaws
import Derived.Test.YteonncnhhccgeaaRows
import Derived.WalkKit
import Derived.Test.YteonncnhhccgeaaPl1
import Derived.Test.YteonncnhhccgeaaPl4
section
namespace Go.Proofs.Yteonncnhhccgeaa
open Go.RowKit Go.Proofs.YteonncnhhccgeaaW.PrintWords Go.Proofs.YteonncnhhccgeaaW.PrintLast Go.Proofs.YteonncnhhccgeaaW.PrintMore
set_option linter.unusedVariables false
set_option linter.unusedSimpArgs false
set_option maxHeartbeats 4000000 in
set_option maxRecDepth 100000 in
theorem fnDropAll_walk (A0 : Option Addr) (c0 : Nat) (l0 : List Int) (w : World)
    (hr0 : (Kd.int .u8).C w A0 l0.length l0) (hc0 : l0.length ≤ c0) (y0 : l0.length * 1 ≤ 140737488351232) (hw0 : ∀ n ∈ l0, (Lit.int .u8 n).wf = true) :
    Calls Try.prog 26 #[.slice A0 l0.length c0] w fun e w' => e = .returned (.bool true) ∧ Below w.heap.size w w' := by
  by_cases g0 : l0.length ≤ 1048576
  rotate_left
  · have t0 : decide ((l0.length : Int) > 1048576) = true := decide_eq_true (by omega)
    have t0' : decide (1048576 < l0.length) = true := decide_eq_true (by omega)
    go_enter Try.func26, Try.ntmps26
    go_wp2_with fail
    go_ret
    exact ⟨rfl, Below.refl _ _⟩
  obtain ⟨x, n, hx, hn0, hn1, D0⟩ := drawDrop l0 (fun z hz => byteOk (hw0 z hz))
  rcases h1 : reS (fun l => takeO l n) n x with ⟨z, b1⟩
  have hz := reS_tot (fun l => takeO l n) n x
  rw [h1] at hz
  replace D0 := Lib.hid D0
  have t0 : decide ((l0.length : Int) > 1048576) = false := decide_eq_false (by omega)
  have t0' : decide (1048576 < l0.length) = false := decide_eq_false (by omega)
  go_enter Try.func26, Try.ntmps26
  go_wp2_with fail
  refine (D0.out A0 c0 _ hr0 hc0).mono ?_
  rintro e w1 ⟨X_3, X_c3, X_4, X_c4, rfl, i, b⟩
  have I := Lib.hid i
  clear i
  have BW := Lib.hid b
  clear b
  have Ix := Lib.hid I.out
  clear I
  go_wp2_with fail
  refine (implGDrop' h1 _ _ _ _ _ (Ix.out.below (below_new _ _)) (by omega)).mono ?_
  rintro e w2 ⟨Z_3, Z_c3, Z_4, Z_c4, rfl, i, b⟩
  have I := Lib.hid i
  clear i
  obtain ⟨k, b⟩ := one_new b
  replace Ix := Lib.hid (Ix.out.below b)
  replace BW := Lib.hid (below_step BW.out b)
  have Kx := Lib.hid k
  clear k
  clear b
  have Iz := Lib.hid I.out
  clear I
  obtain ⟨p0, p1, p2, p3, p4⟩ := fm_cells (blk_below Kx.out (below_new w2 (.cells #[.int .i64 z.f0, .string z.f1, .int .i64 z.f2, .slice Z_3 z.f3.length Z_c3, .slice Z_4 z.f4.length Z_c4] 31)))
  go_wp2_with fail
  clear p0 p1 p2 p3 p4
  refine (specGDrop' h1 _ _ _ _ _ (Ix.out.below (below_new _ _)) (by omega)).mono ?_
  rintro e w3 ⟨U_3, U_c3, U_4, U_c4, rfl, i, b⟩
  have I := Lib.hid i
  clear i
  obtain ⟨k, b⟩ := one_new b
  replace Kx := Lib.hid (blk_below Kx.out b)
  replace Ix := Lib.hid (Ix.out.below b)
  replace Iz := Lib.hid (Iz.out.below b)
  replace BW := Lib.hid (below_step BW.out b)
  have Kz := Lib.hid k
  clear k
  clear b
  have Iu := Lib.hid I.out
  clear I
  obtain ⟨p0, p1, p2, p3, p4⟩ := fm_cells (blk_below Kz.out (below_new w3 (.cells #[.int .i64 z.f0, .string z.f1, .int .i64 z.f2, .slice U_3 z.f3.length U_c3, .slice U_4 z.f4.length U_c4] 31)))
  go_wp2_with fail
  clear p0 p1 p2 p3 p4
  refine (sameT z _ _ _ _ _ _ _ _ _ (Iz.out.below (below_new _ _)) (Iu.out.below (below_new _ _))).mono ?_
  rintro e w4 ⟨rfl, b⟩
  obtain ⟨k, b⟩ := one_new b
  replace Kx := Lib.hid (blk_below Kx.out b)
  replace Kz := Lib.hid (blk_below Kz.out b)
  replace Ix := Lib.hid (Ix.out.below b)
  replace Iz := Lib.hid (Iz.out.below b)
  replace Iu := Lib.hid (Iu.out.below b)
  replace BW := Lib.hid (below_step BW.out b)
  have Ku := Lib.hid k
  clear k
  clear b
  rcases b1 with _ | _
  · obtain ⟨p0, p1, p2, p3, p4⟩ := fm_cells Kz.out
    obtain ⟨q0, q1, q2, q3, q4⟩ := fm_cells Ku.out
    go_wp2_with fail
    clear p0 p1 p2 p3 p4 q0 q1 q2 q3 q4
    refine (sameT z _ _ _ _ _ _ _ _ _ Iz.out Iu.out).mono ?_
    rintro e w5 ⟨rfl, b⟩
    replace Kx := Lib.hid (blk_below Kx.out b)
    replace Kz := Lib.hid (blk_below Kz.out b)
    replace Ku := Lib.hid (blk_below Ku.out b)
    replace Ix := Lib.hid (Ix.out.below b)
    replace Iz := Lib.hid (Iz.out.below b)
    replace Iu := Lib.hid (Iu.out.below b)
    replace BW := Lib.hid (below_step BW.out b)
    clear b
    go_wp2_with fail
    go_ret
    exact ⟨rfl, by repeat (first | exact BW.out | refine below_alloc ?_ _)⟩
  · obtain ⟨hx0, -, -, -, -⟩ := reS_true h1
    obtain ⟨l, hl⟩ : ∃ l, scAll x = l := ⟨_, rfl⟩
    have hls : l.length ≤ 7000 := by rw [← hl]; have := scAll_len x; omega
    have HST := Lib.hid (fun (i : Nat) (hi : i < l.length) => dropTo_step hx0 (hl ▸ scAll_in hx0) hi)
    have HAL := Lib.hid (show dropTo x l l.length = x.bare from hl ▸ dropTo_all hx0)
    have HZ0 := Lib.hid (dropTo_zero hx0 l)
    have HTT := Lib.hid (fun i => fmOk_tot (dropTo_ok hx0 l i))
    clear hx0 h1
    obtain ⟨p0, p1, p2, p3, p4⟩ := fm_cells Kx.out
    go_wp2_with fail
    clear p0 p1 p2 p3 p4
    refine (implSc' hl _ _ _ _ _ Ix.out (by omega)).mono ?_
    rintro e w5 ⟨lA, lc, rfl, hlc_, hC, b⟩
    have Ll := Lib.hid hC
    clear hC
    replace Kx := Lib.hid (blk_below Kx.out b)
    replace Kz := Lib.hid (blk_below Kz.out b)
    replace Ku := Lib.hid (blk_below Ku.out b)
    replace Ix := Lib.hid (Ix.out.below b)
    replace Iz := Lib.hid (Iz.out.below b)
    replace Iu := Lib.hid (Iu.out.below b)
    replace BW := Lib.hid (below_step BW.out b)
    clear b
    obtain ⟨p0, p1, p2, p3, p4⟩ := fm_cells Kx.out
    go_wp2_with fail
    clear p0 p1 p2 p3 p4
    have HXI := Lib.hid Ix.out
    go_loopg [11, 12, 13] l.length (fun kq v11 v12 v13 w' => ∃ (i : Nat) (Y_3 : Option Addr) (Y_c3 : Nat) (Y_4 : Option Addr) (Y_c4 : Nat), i ≤ l.length ∧ l.length - i ≤ kq ∧ v11 = .int .i64 i ∧ Aside0 (w'.heap[w5.heap.size]? = some (.cells #[.int .i64 (dropTo x l i).f0, .string (dropTo x l i).f1, .int .i64 (dropTo x l i).f2, .slice Y_3 (dropTo x l i).f3.length Y_c3, .slice Y_4 (dropTo x l i).f4.length Y_c4] 31 (0, 0))) ∧ Aside0 (FmK w5.heap.size w' (dropTo x l i) Y_3 Y_c3 Y_4 Y_c4) ∧ Aside0 (Below w5.heap.size w5 w'))
    case atStart => exact ⟨0, X_3, X_c3, X_4, X_c4, Nat.zero_le _, by omega, rfl, ⟨by rw [HZ0.out]; exact blk_new _ _⟩, ⟨by rw [HZ0.out]; exact FmK.elder HXI.out (below_new _ _) (Nat.le_refl _)⟩, ⟨below_new _ _⟩⟩
    case round =>
      obtain ⟨i, Y_3, Y_c3, Y_4, Y_c4, hi, hg, rfl, HY, HK, HW⟩ := hrel
      replace Kx := Lib.hid (blk_below Kx.out HW.out)
      replace Kz := Lib.hid (blk_below Kz.out HW.out)
      replace Ku := Lib.hid (blk_below Ku.out HW.out)
      replace Ix := Lib.hid (Ix.out.below HW.out)
      replace Iz := Lib.hid (Iz.out.below HW.out)
      replace Iu := Lib.hid (Iu.out.below HW.out)
      replace Ll := Lib.hid (Kd.C_below Ll.out HW.out)
      replace BW := Lib.hid (below_step BW.out HW.out)
      replace HW := Lib.hid HW.out
      clear HXI
      by_cases hlt : i < l.length
      · have hst := HST.out i hlt
        have ht1 := HTT.out i
        generalize hy : dropTo x l i = y at HY HK hst ht1
        generalize hy' : dropTo x l (i + 1) = y' at hst
        have HYE := Lib.hid hy'
        clear hy hy'
        obtain ⟨ad, e, g0⟩ := int_at Ll.out i hlt
        subst e
        have HG := Lib.hid g0
        have HGY := Lib.hid (show w5.heap.size < wr.heap.size from blk_lt HY.out)
        go_wp2_with fail
        clear g0
        have b := below_drew (Below.refl wr.heap.size wr)
        have HB := Lib.hid b
        obtain ⟨q0, q1, q2, q3, q4⟩ := fm_cells (blk_below HY.out b)
        have q5 := ck0 b HG.out
        clear b
        refine start_ (n := 12) (S := (fun W : World => W.cell? ⟨w5.heap.size, 0, none⟩ = some (.int .i64 y.f0) ∧ W.cell? ⟨w5.heap.size, 1, none⟩ = some (.string y.f1) ∧ W.cell? ⟨w5.heap.size, 2, none⟩ = some (.int .i64 y.f2) ∧ W.cell? ⟨w5.heap.size, 3, none⟩ = some (.slice Y_3 y.f3.length Y_c3) ∧ W.cell? ⟨w5.heap.size, 4, none⟩ = some (.slice Y_4 y.f4.length Y_c4) ∧ W.cell? (ad.add i) = some (.int .i64 l[i]))) (ds := []) #[false, false, false, false, false, false, false, false, false, false, false, false] (by kernel_rfl) rfl rfl ⟨q0, q1, q2, q3, q4, q5⟩ (fun hHeld => ?_)
        generalize World.drew _ = wd at HB hHeld ⊢
        clear q0 q1 q2 q3 q4 q5
        refine take_ (i := 0) (N := some 65) (v := ?_) (a' := ?_) #[true, false, false, false, false, false, false, false, false, false, false, false] rfl rfl (by kernel_rfl) (fun _ _ _ h => h) (Or.inl ⟨by rfl, ?_⟩) hHeld ?_ ?_
        rotate_left
        · rintro w' ⟨s0, s1, s2, s3, s4, s5⟩
          go_simp
          with_reducible rfl
        rotate_left
        · simp only [Act.put, List.setIfInBounds_toArray, List.set_cons_zero, List.set_cons_succ, i64_w, i32_w]
          rfl
        refine pure_ (i := 1) (N := some 66) (v := ?_) (a' := ?_) #[true, true, false, false, false, false, false, false, false, false, false, false] rfl rfl (by kernel_rfl) (fun _ _ _ h => h) (Or.inl ⟨by rfl, ?_⟩) ?_ ?_
        rotate_left
        · intro w'
          go_simp
          with_reducible rfl
        rotate_left
        · simp only [Act.put, List.setIfInBounds_toArray, List.set_cons_zero, List.set_cons_succ, i64_w, i32_w]
          rfl
        refine pure_ (i := 2) (N := some 67) (v := ?_) (a' := ?_) #[true, true, true, false, false, false, false, false, false, false, false, false] rfl rfl (by kernel_rfl) (fun _ _ _ h => h) (Or.inl ⟨by rfl, ?_⟩) ?_ ?_
        rotate_left
        · intro w'
          go_simp
          with_reducible rfl
        rotate_left
        · simp only [Act.put, List.setIfInBounds_toArray, List.set_cons_zero, List.set_cons_succ, i64_w, i32_w]
          rfl
        refine pure_ (i := 3) (N := some 68) (v := ?_) (a' := ?_) #[true, true, true, true, false, false, false, false, false, false, false, false] rfl rfl (by kernel_rfl) (fun _ _ _ h => h) (Or.inl ⟨by rfl, ?_⟩) ?_ ?_
        rotate_left
        · intro w'
          go_simp
          with_reducible rfl
        rotate_left
        · simp only [Act.put, List.setIfInBounds_toArray, List.set_cons_zero, List.set_cons_succ, i64_w, i32_w]
          rfl
        refine take_ (i := 4) (N := some 69) (v := ?_) (a' := ?_) #[true, true, true, true, true, false, false, false, false, false, false, false] rfl rfl (by kernel_rfl) (fun _ _ _ h => h) (Or.inl ⟨by rfl, ?_⟩) hHeld ?_ ?_
        rotate_left
        · rintro w' ⟨s0, s1, s2, s3, s4, s5⟩
          go_simp
          with_reducible rfl
        rotate_left
        · simp only [Act.put, List.setIfInBounds_toArray, List.set_cons_zero, List.set_cons_succ, i64_w, i32_w]
          rfl
        refine two_ (i := 5) (j := 9) (Ni := some 70) (Nj := some 12) #[true, true, true, true, true, true, false, false, false, false, false, false] #[true, true, true, true, true, false, false, false, false, true, false, false] rfl rfl rfl rfl (by kernel_rfl) (by decide) (by decide) (fun K hK => ?_) (fun K hK => ?_)
        · refine goes_ Try.func43 (by kernel_rfl) rfl #[.agg #[.int .i64 y.f0, .string y.f1, .int .i64 y.f2, .slice Y_3 y.f3.length Y_c3, .slice Y_4 y.f4.length Y_c4], .int .i64 l[i]] (by rfl) rfl rfl (by (try simp only [List.map_toArray, List.map_cons, List.map_nil]); first | done | rfl) ?_
          refine (implSDrop' hst Y_3 Y_c3 Y_4 Y_c4 wd (HK.out.later HB.out).now (by omega)).mono ?_
          rintro e w31 ⟨N_3, N_c3, N_4, N_c4, rfl, hs, b⟩
          have HSN := Lib.hid hs
          refine ⟨_, rfl, ?_⟩
          have hlo : wr.heap.size ≤ wd.heap.size := HB.out.size
          replace HB := Lib.hid (below_step HB.out b)
          refine hK.out _ _ (⟨(fm_cells (blk_below HY.out HB.out)).1, (fm_cells (blk_below HY.out HB.out)).2.1, (fm_cells (blk_below HY.out HB.out)).2.2.1, (fm_cells (blk_below HY.out HB.out)).2.2.2.1, (fm_cells (blk_below HY.out HB.out)).2.2.2.2, ck0 HB.out HG.out⟩ : _ ∧ _) (fun hHeld => ?_)
          clear hK K
          refine norm_ (a' := ?_) ?_ ?_
          rotate_left
          · show Act.put _ (some 70) _ = _
            simp only [Act.put, List.setIfInBounds_toArray, List.set_cons_zero, List.set_cons_succ, i64_w, i32_w]
            rfl
          refine pure_ (i := 6) (N := some 64) (v := ?_) (a' := ?_) #[true, true, true, true, true, true, true, false, false, false, false, false] rfl rfl (by kernel_rfl) (fun _ _ _ h => h) (Or.inl ⟨by rfl, ?_⟩) ?_ ?_
          rotate_left
          · intro w'
            go_simp
            with_reducible rfl
          rotate_left
          · simp only [Act.put, List.setIfInBounds_toArray, List.set_cons_zero, List.set_cons_succ, i64_w, i32_w]
            rfl
          refine pure_ (i := 7) (N := some 71) (v := ?_) (a' := ?_) #[true, true, true, true, true, true, true, true, false, false, false, false] rfl rfl (by kernel_rfl) (fun _ _ _ h => h) (Or.inl ⟨by rfl, ?_⟩) ?_ ?_
          rotate_left
          · intro w'
            go_simp
            with_reducible rfl
          rotate_left
          · simp only [Act.put, List.setIfInBounds_toArray, List.set_cons_zero, List.set_cons_succ, i64_w, i32_w]
            rfl
          refine pure_ (i := 8) (N := some 72) (v := ?_) (a' := ?_) #[true, true, true, true, true, true, true, true, true, false, false, false] rfl rfl (by kernel_rfl) (fun _ _ _ h => h) (Or.inl ⟨by rfl, ?_⟩) ?_ ?_
          rotate_left
          · intro w'
            go_simp
            with_reducible rfl
          rotate_left
          · simp only [Act.put, List.setIfInBounds_toArray, List.set_cons_zero, List.set_cons_succ, i64_w, i32_w]
            rfl
          refine one_ (i := 9) (N := some 12) #[true, true, true, true, true, true, true, true, true, true, false, false] rfl rfl (by kernel_rfl) (by decide) (fun K hK => ?_)
          refine box_step ?hg (N := 12) ?hd (cs := #[.int .i64 0, .string ⟨#[]⟩, .int .i64 0, .slice none 0 0, .slice none 0 0]) (t := 31) ?hr ?_; (case hd => rfl); (case hg => rfl); (case hr => first | (go_simp; done) | (go_simp; rfl))
          intro g3 hg3 w32 hbox hb32
          have b := hb32
          have hge : wr.heap.size ≤ g3 := hg3 ▸ HB.out.size
          replace HB := Lib.hid (below_step HB.out b)
          refine hK.out _ _ (⟨(fm_cells (blk_below HY.out HB.out)).1, (fm_cells (blk_below HY.out HB.out)).2.1, (fm_cells (blk_below HY.out HB.out)).2.2.1, (fm_cells (blk_below HY.out HB.out)).2.2.2.1, (fm_cells (blk_below HY.out HB.out)).2.2.2.2, ck0 HB.out HG.out⟩ : _ ∧ _) (fun hHeld => ?_)
          clear hK K
          refine norm_ (a' := ?_) ?_ ?_
          rotate_left
          · show Act.put _ (some 12) _ = _
            simp only [Act.put, List.setIfInBounds_toArray, List.set_cons_zero, List.set_cons_succ, i64_w, i32_w]
            rfl
          obtain ⟨z0, z1, z2, z3, z4⟩ := fm_cells hbox
          obtain ⟨f0, f1, f2, f3, f4⟩ := fm_free hbox
          obtain ⟨st1, st2, st3⟩ := st5 hbox (.int .i64 y'.f0) (.string y'.f1) (.int .i64 y'.f2) (.slice N_3 y'.f3.length N_c3) (.slice N_4 y'.f4.length N_c4)
          have HX := Lib.hid (st3 _ _ HB.out hge)
          have HSX := Lib.hid (FmK.ofS (g := w5.heap.size) (HSN.out.move (Nat.le_trans hb32.size (st3 0 w32 (Below.refl 0 _) (Nat.zero_le _)).size) (fun b h1 h2 => (st2 b (by omega)).trans (hb32.block b h2))) (by have := HGY.out; omega))
          have HN := Lib.hid st1
          clear hbox st1 st2 st3 hge hg3 hlo b hs
          refine one_ (i := 10) (N := none) #[true, true, true, true, true, true, true, true, true, true, true, false] rfl rfl (by kernel_rfl) (by decide) (fun K hK => ?_)
          refine skip_ (w1 := ?_) (by rfl) rfl ?_ ?_
          rotate_left
          · go_simp
            rfl
          refine hK.out _ _ (⟨(fm_cells (blk_below HY.out HX.out)).1, (fm_cells (blk_below HY.out HX.out)).2.1, (fm_cells (blk_below HY.out HX.out)).2.2.1, (fm_cells (blk_below HY.out HX.out)).2.2.2.1, (fm_cells (blk_below HY.out HX.out)).2.2.2.2, ck0 HX.out HG.out⟩ : _ ∧ _) (fun hHeld => ?_)
          clear hK K z0 z1 z2 z3 z4 f0 f1 f2 f3 f4
          generalize World.setCell (World.setCell (World.setCell (World.setCell (World.setCell w32 _ _) _ _) _ _) _ _) _ _ = wx at HX HSX HN hHeld ⊢
          refine pure_ (i := 11) (N := some 13) (v := ?_) (a' := ?_) #[true, true, true, true, true, true, true, true, true, true, true, true] rfl rfl (by kernel_rfl) (fun _ _ _ h => h) (Or.inl ⟨by rfl, ?_⟩) ?_ ?_
          rotate_left
          · intro w'
            go_simp
            with_reducible rfl
          rotate_left
          · simp only [Act.put, List.setIfInBounds_toArray, List.set_cons_zero, List.set_cons_succ, i64_w, i32_w]
            rfl
          refine done_ (by kernel_rfl) ?_
          obtain ⟨z0, z1, z2, z3, z4⟩ := fm_cells HN.out
          have hyx := blk_below HY.out HX.out
          obtain ⟨q0, q1, q2, q3, q4⟩ := fm_cells hyx
          obtain ⟨f0, f1, f2, f3, f4⟩ := fm_free hyx
          obtain ⟨st1, st2, st3⟩ := st5 hyx (.int .i64 y'.f0) (.string y'.f1) (.int .i64 y'.f2) (.slice N_3 y'.f3.length N_c3) (.slice N_4 y'.f4.length N_c4)
          have HEND := Lib.hid (And.intro st1 (And.intro (HSX.out.move (Mk.put5 wx w5.heap.size (.int .i64 y'.f0) (.string y'.f1) (.int .i64 y'.f2) (.slice N_3 y'.f3.length N_c3) (.slice N_4 y'.f4.length N_c4))) (st3 _ _ (below_step HW.out HX.out) (Nat.le_refl _))))
          clear hyx st1 st2 st3 hHeld
          go_wp2_with fail
          go_roundg (l.length - (i + 1))
          case measure => omega
          case rel => exact ⟨i + 1, N_3, N_c3, N_4, N_c4, by omega, Nat.le_refl _, by go_num, ⟨by rw [HYE.out]; exact HEND.out.1⟩, ⟨by rw [HYE.out]; exact HEND.out.2.1⟩, ⟨HEND.out.2.2⟩⟩
        · refine box_step ?hg (N := 12) ?hd (cs := #[.int .i64 0, .string ⟨#[]⟩, .int .i64 0, .slice none 0 0, .slice none 0 0]) (t := 31) ?hr ?_; (case hd => rfl); (case hg => rfl); (case hr => first | (go_simp; done) | (go_simp; rfl))
          intro g3 hg3 w31 hbox b
          have hge : wr.heap.size ≤ g3 := hg3 ▸ HB.out.size
          replace HB := Lib.hid (below_step HB.out b)
          have hsz1 : g3 < w31.heap.size := blk_lt hbox
          clear b
          refine hK.out _ _ (⟨(fm_cells (blk_below HY.out HB.out)).1, (fm_cells (blk_below HY.out HB.out)).2.1, (fm_cells (blk_below HY.out HB.out)).2.2.1, (fm_cells (blk_below HY.out HB.out)).2.2.2.1, (fm_cells (blk_below HY.out HB.out)).2.2.2.2, ck0 HB.out HG.out⟩ : _ ∧ _) (fun hHeld => ?_)
          clear hK K
          refine norm_ (a' := ?_) ?_ ?_
          rotate_left
          · show Act.put _ (some 12) _ = _
            simp only [Act.put, List.setIfInBounds_toArray, List.set_cons_zero, List.set_cons_succ, i64_w, i32_w]
            rfl
          refine one_ (i := 5) (N := some 70) #[true, true, true, true, true, true, false, false, false, true, false, false] rfl rfl (by kernel_rfl) (by decide) (fun K hK => ?_)
          refine goes_ Try.func43 (by kernel_rfl) rfl #[.agg #[.int .i64 y.f0, .string y.f1, .int .i64 y.f2, .slice Y_3 y.f3.length Y_c3, .slice Y_4 y.f4.length Y_c4], .int .i64 l[i]] (by rfl) rfl rfl (by (try simp only [List.map_toArray, List.map_cons, List.map_nil]); first | done | rfl) ?_
          refine (implSDrop' hst Y_3 Y_c3 Y_4 Y_c4 w31 (HK.out.later HB.out).now (by omega)).mono ?_
          rintro e w32 ⟨N_3, N_c3, N_4, N_c4, rfl, hs, b⟩
          have HSN := Lib.hid hs
          refine ⟨_, rfl, ?_⟩
          have hlo : wr.heap.size ≤ w31.heap.size := HB.out.size
          replace HB := Lib.hid (below_step HB.out b)
          replace hbox := blk_below hbox b
          refine hK.out _ _ (⟨(fm_cells (blk_below HY.out HB.out)).1, (fm_cells (blk_below HY.out HB.out)).2.1, (fm_cells (blk_below HY.out HB.out)).2.2.1, (fm_cells (blk_below HY.out HB.out)).2.2.2.1, (fm_cells (blk_below HY.out HB.out)).2.2.2.2, ck0 HB.out HG.out⟩ : _ ∧ _) (fun hHeld => ?_)
          clear hK K
          refine norm_ (a' := ?_) ?_ ?_
          rotate_left
          · show Act.put _ (some 70) _ = _
            simp only [Act.put, List.setIfInBounds_toArray, List.set_cons_zero, List.set_cons_succ, i64_w, i32_w]
            rfl
          refine pure_ (i := 6) (N := some 64) (v := ?_) (a' := ?_) #[true, true, true, true, true, true, true, false, false, true, false, false] rfl rfl (by kernel_rfl) (fun _ _ _ h => h) (Or.inl ⟨by rfl, ?_⟩) ?_ ?_
          rotate_left
          · intro w'
            go_simp
            with_reducible rfl
          rotate_left
          · simp only [Act.put, List.setIfInBounds_toArray, List.set_cons_zero, List.set_cons_succ, i64_w, i32_w]
            rfl
          refine pure_ (i := 7) (N := some 71) (v := ?_) (a' := ?_) #[true, true, true, true, true, true, true, true, false, true, false, false] rfl rfl (by kernel_rfl) (fun _ _ _ h => h) (Or.inl ⟨by rfl, ?_⟩) ?_ ?_
          rotate_left
          · intro w'
            go_simp
            with_reducible rfl
          rotate_left
          · simp only [Act.put, List.setIfInBounds_toArray, List.set_cons_zero, List.set_cons_succ, i64_w, i32_w]
            rfl
          refine pure_ (i := 8) (N := some 72) (v := ?_) (a' := ?_) #[true, true, true, true, true, true, true, true, true, true, false, false] rfl rfl (by kernel_rfl) (fun _ _ _ h => h) (Or.inl ⟨by rfl, ?_⟩) ?_ ?_
          rotate_left
          · intro w'
            go_simp
            with_reducible rfl
          rotate_left
          · simp only [Act.put, List.setIfInBounds_toArray, List.set_cons_zero, List.set_cons_succ, i64_w, i32_w]
            rfl
          obtain ⟨z0, z1, z2, z3, z4⟩ := fm_cells hbox
          obtain ⟨f0, f1, f2, f3, f4⟩ := fm_free hbox
          obtain ⟨st1, st2, st3⟩ := st5 hbox (.int .i64 y'.f0) (.string y'.f1) (.int .i64 y'.f2) (.slice N_3 y'.f3.length N_c3) (.slice N_4 y'.f4.length N_c4)
          have HX := Lib.hid (st3 _ _ HB.out hge)
          have HSX := Lib.hid (FmK.ofS (g := w5.heap.size) (HSN.out.move ((st3 0 w32 (Below.refl 0 _) (Nat.zero_le _)).size) (fun b h1 h2 => st2 b (by omega))) (by have := HGY.out; omega))
          have HN := Lib.hid st1
          clear hbox st1 st2 st3 hge hg3 hlo b hs
          refine one_ (i := 10) (N := none) #[true, true, true, true, true, true, true, true, true, true, true, false] rfl rfl (by kernel_rfl) (by decide) (fun K hK => ?_)
          refine skip_ (w1 := ?_) (by rfl) rfl ?_ ?_
          rotate_left
          · go_simp
            rfl
          refine hK.out _ _ (⟨(fm_cells (blk_below HY.out HX.out)).1, (fm_cells (blk_below HY.out HX.out)).2.1, (fm_cells (blk_below HY.out HX.out)).2.2.1, (fm_cells (blk_below HY.out HX.out)).2.2.2.1, (fm_cells (blk_below HY.out HX.out)).2.2.2.2, ck0 HX.out HG.out⟩ : _ ∧ _) (fun hHeld => ?_)
          clear hK K z0 z1 z2 z3 z4 f0 f1 f2 f3 f4
          generalize World.setCell (World.setCell (World.setCell (World.setCell (World.setCell w32 _ _) _ _) _ _) _ _) _ _ = wx at HX HSX HN hHeld ⊢
          refine pure_ (i := 11) (N := some 13) (v := ?_) (a' := ?_) #[true, true, true, true, true, true, true, true, true, true, true, true] rfl rfl (by kernel_rfl) (fun _ _ _ h => h) (Or.inl ⟨by rfl, ?_⟩) ?_ ?_
          rotate_left
          · intro w'
            go_simp
            with_reducible rfl
          rotate_left
          · simp only [Act.put, List.setIfInBounds_toArray, List.set_cons_zero, List.set_cons_succ, i64_w, i32_w]
            rfl
          refine done_ (by kernel_rfl) ?_
          obtain ⟨z0, z1, z2, z3, z4⟩ := fm_cells HN.out
          have hyx := blk_below HY.out HX.out
          obtain ⟨q0, q1, q2, q3, q4⟩ := fm_cells hyx
          obtain ⟨f0, f1, f2, f3, f4⟩ := fm_free hyx
          obtain ⟨st1, st2, st3⟩ := st5 hyx (.int .i64 y'.f0) (.string y'.f1) (.int .i64 y'.f2) (.slice N_3 y'.f3.length N_c3) (.slice N_4 y'.f4.length N_c4)
          have HEND := Lib.hid (And.intro st1 (And.intro (HSX.out.move (Mk.put5 wx w5.heap.size (.int .i64 y'.f0) (.string y'.f1) (.int .i64 y'.f2) (.slice N_3 y'.f3.length N_c3) (.slice N_4 y'.f4.length N_c4))) (st3 _ _ (below_step HW.out HX.out) (Nat.le_refl _))))
          clear hyx st1 st2 st3 hHeld
          go_wp2_with fail
          go_roundg (l.length - (i + 1))
          case measure => omega
          case rel => exact ⟨i + 1, N_3, N_c3, N_4, N_c4, by omega, Nat.le_refl _, by go_num, ⟨by rw [HYE.out]; exact HEND.out.1⟩, ⟨by rw [HYE.out]; exact HEND.out.2.1⟩, ⟨HEND.out.2.2⟩⟩
      · obtain rfl : i = l.length := by omega
        have hE := HAL.out
        rw [hE] at HY HK
        have Ky := Lib.hid HY.out
        have Iy := Lib.hid HK.out.now
        clear HY HK hE
        go_wp2_with fail
        have b := below_drew (Below.refl wr.heap.size wr)
        replace Kx := Lib.hid (blk_below Kx.out b)
        replace Kz := Lib.hid (blk_below Kz.out b)
        replace Ku := Lib.hid (blk_below Ku.out b)
        replace Ky := Lib.hid (blk_below Ky.out b)
        replace Ix := Lib.hid (Ix.out.below b)
        replace Iz := Lib.hid (Iz.out.below b)
        replace Iu := Lib.hid (Iu.out.below b)
        replace Iy := Lib.hid (Iy.out.below b)
        replace Ll := Lib.hid (Kd.C_below Ll.out b)
        replace HW := Lib.hid (below_step HW.out b)
        replace BW := Lib.hid (below_step BW.out b)
        clear b
        obtain ⟨p0, p1, p2, p3, p4⟩ := fm_cells Ky.out
        obtain ⟨q0, q1, q2, q3, q4⟩ := fm_cells Kx.out
        refine start_ (n := 5) (S := (fun W : World => W.cell? ⟨w5.heap.size, 0, none⟩ = some (.int .i64 x.bare.f0) ∧ W.cell? ⟨w5.heap.size, 1, none⟩ = some (.string x.bare.f1) ∧ W.cell? ⟨w5.heap.size, 2, none⟩ = some (.int .i64 x.bare.f2) ∧ W.cell? ⟨w5.heap.size, 3, none⟩ = some (.slice Y_3 x.bare.f3.length Y_c3) ∧ W.cell? ⟨w5.heap.size, 4, none⟩ = some (.slice Y_4 x.bare.f4.length Y_c4) ∧ W.cell? ⟨w1.heap.size, 0, none⟩ = some (.int .i64 x.f0) ∧ W.cell? ⟨w1.heap.size, 1, none⟩ = some (.string x.f1) ∧ W.cell? ⟨w1.heap.size, 2, none⟩ = some (.int .i64 x.f2) ∧ W.cell? ⟨w1.heap.size, 3, none⟩ = some (.slice X_3 x.f3.length X_c3) ∧ W.cell? ⟨w1.heap.size, 4, none⟩ = some (.slice X_4 x.f4.length X_c4))) (ds := []) #[false, false, false, false, false] (by kernel_rfl) rfl rfl ⟨p0, p1, p2, p3, p4, q0, q1, q2, q3, q4⟩ (fun hHeld => ?_)
        generalize World.drew _ = wd at Kx Kz Ku Ky Ix Iz Iu Iy BW Ll HW hHeld ⊢
        clear p0 p1 p2 p3 p4 q0 q1 q2 q3 q4
        refine take_ (i := 0) (N := some 76) (v := ?_) (a' := ?_) #[true, false, false, false, false] rfl rfl (by kernel_rfl) (fun _ _ _ h => h) (Or.inl ⟨by rfl, ?_⟩) hHeld ?_ ?_
        rotate_left
        · rintro w' ⟨s0, s1, s2, s3, s4, s5, s6, s7, s8, s9⟩
          go_simp
          with_reducible rfl
        rotate_left
        · simp only [Act.put, List.setIfInBounds_toArray, List.set_cons_zero, List.set_cons_succ, i64_w, i32_w]
          rfl
        refine take_ (i := 1) (N := some 77) (v := ?_) (a' := ?_) #[true, true, false, false, false] rfl rfl (by kernel_rfl) (fun _ _ _ h => h) (Or.inl ⟨by rfl, ?_⟩) hHeld ?_ ?_
        rotate_left
        · rintro w' ⟨s0, s1, s2, s3, s4, s5, s6, s7, s8, s9⟩
          go_simp
          with_reducible rfl
        rotate_left
        · simp only [Act.put, List.setIfInBounds_toArray, List.set_cons_zero, List.set_cons_succ, i64_w, i32_w]
          rfl
        refine one_ (i := 2) (N := some 78) #[true, true, true, false, false] rfl rfl (by kernel_rfl) (by decide) (fun K hK => ?_)
        refine goes_ Try.func35 (by kernel_rfl) rfl #[.agg #[.int .i64 x.f0, .string x.f1, .int .i64 x.f2, .slice X_3 x.f3.length X_c3, .slice X_4 x.f4.length X_c4]] (by rfl) rfl rfl (by (try simp only [List.map_toArray, List.map_cons, List.map_nil]); first | done | rfl) ?_
        refine ((implStrip_any x _ _ _ _ _ Ix.out (by omega)).mono (fun e w' h => h.get)).mono ?_
        rintro e w6 ⟨SX_3, SX_c3, SX_4, SX_c4, rfl, i, b⟩
        have I := Lib.hid i
        clear i
        replace Kx := Lib.hid (blk_below Kx.out b)
        replace Kz := Lib.hid (blk_below Kz.out b)
        replace Ku := Lib.hid (blk_below Ku.out b)
        replace Ky := Lib.hid (blk_below Ky.out b)
        replace Ix := Lib.hid (Ix.out.below b)
        replace Iz := Lib.hid (Iz.out.below b)
        replace Iu := Lib.hid (Iu.out.below b)
        replace Iy := Lib.hid (Iy.out.below b)
        replace Ll := Lib.hid (Kd.C_below Ll.out b)
        replace HW := Lib.hid (below_step HW.out b)
        replace BW := Lib.hid (below_step BW.out b)
        clear b
        have Isx := Lib.hid I.out
        clear I
        refine ⟨_, rfl, ?_⟩
        obtain ⟨p0, p1, p2, p3, p4⟩ := fm_cells Ky.out
        obtain ⟨q0, q1, q2, q3, q4⟩ := fm_cells Kx.out
        refine hK.out _ _ ⟨p0, p1, p2, p3, p4, q0, q1, q2, q3, q4⟩ (fun hHeld => ?_)
        clear hK K
        refine norm_ (a' := ?_) ?_ ?_
        rotate_left
        · show Act.put _ (some 78) _ = _
          simp only [Act.put, List.setIfInBounds_toArray, List.set_cons_zero, List.set_cons_succ, i64_w, i32_w]
          rfl
        clear p0 p1 p2 p3 p4 q0 q1 q2 q3 q4
        refine one_ (i := 3) (N := some 79) #[true, true, true, true, false] rfl rfl (by kernel_rfl) (by decide) (fun K hK => ?_)
        refine goes_ Try.func33 (by kernel_rfl) rfl #[.agg #[.int .i64 x.bare.f0, .string x.bare.f1, .int .i64 x.bare.f2, .slice Y_3 x.bare.f3.length Y_c3, .slice Y_4 x.bare.f4.length Y_c4], .agg #[.int .i64 x.bare.f0, .string x.bare.f1, .int .i64 x.bare.f2, .slice SX_3 x.bare.f3.length SX_c3, .slice SX_4 x.bare.f4.length SX_c4]] (by rfl) rfl rfl (by (try simp only [List.map_toArray, List.map_cons, List.map_nil]); first | done | rfl) ?_
        refine (sameT x.bare _ _ _ _ _ _ _ _ _ Iy.out Isx.out).mono ?_
        rintro e w7 ⟨rfl, b⟩
        replace Kx := Lib.hid (blk_below Kx.out b)
        replace Kz := Lib.hid (blk_below Kz.out b)
        replace Ku := Lib.hid (blk_below Ku.out b)
        replace Ky := Lib.hid (blk_below Ky.out b)
        replace Ix := Lib.hid (Ix.out.below b)
        replace Iz := Lib.hid (Iz.out.below b)
        replace Iu := Lib.hid (Iu.out.below b)
        replace Iy := Lib.hid (Iy.out.below b)
        replace Isx := Lib.hid (Isx.out.below b)
        replace Ll := Lib.hid (Kd.C_below Ll.out b)
        replace HW := Lib.hid (below_step HW.out b)
        replace BW := Lib.hid (below_step BW.out b)
        clear b
        refine ⟨_, rfl, ?_⟩
        obtain ⟨p0, p1, p2, p3, p4⟩ := fm_cells Ky.out
        obtain ⟨q0, q1, q2, q3, q4⟩ := fm_cells Kx.out
        refine hK.out _ _ ⟨p0, p1, p2, p3, p4, q0, q1, q2, q3, q4⟩ (fun hHeld => ?_)
        clear hK K
        refine norm_ (a' := ?_) ?_ ?_
        rotate_left
        · show Act.put _ (some 79) _ = _
          simp only [Act.put, List.setIfInBounds_toArray, List.set_cons_zero, List.set_cons_succ, i64_w, i32_w]
          rfl
        clear p0 p1 p2 p3 p4 q0 q1 q2 q3 q4
        refine pure_ (i := 4) (N := some 2) (v := ?_) (a' := ?_) #[true, true, true, true, true] rfl rfl (by kernel_rfl) (fun _ _ _ h => h) (Or.inl ⟨by rfl, ?_⟩) ?_ ?_
        rotate_left
        · intro w'
          go_simp
          with_reducible rfl
        rotate_left
        · simp only [Act.put, List.setIfInBounds_toArray, List.set_cons_zero, List.set_cons_succ, i64_w, i32_w]
          rfl
        refine done_ (by kernel_rfl) ?_
        go_wp2_with fail
        go_ret
        exact ⟨rfl, by repeat (first | exact BW.out | refine below_alloc ?_ _)⟩
end Go.Proofs.Yteonncnhhccgeaa
end
section
namespace Go.Proofs.Yteonncnhhccgeaa.fnDropAll
open Go.ChangeShapes Go.WideShapes Go.ChangeAt Go.RowKit Go.Proofs.Yteonncnhhccgeaa
open Go.ChangeMaps (open_string shut_string)
set_option linter.unusedVariables false
theorem own : ownKnob Try.prog.godebug = none := by kernel_rfl
theorem laidOut : laidOutB Try.prog = true := by kernel_rfl
def IsRow (k : IntKind) (w : World) (a : Option Addr) (len cap : Nat) (zs : List Int) : Prop :=
  (a = none ∧ len = 0 ∧ cap = 0 ∧ zs = []) ∨
  ∃ x, a = some x ∧ len ≤ cap ∧ cap ≤ maxLen ∧ zs.length = cap ∧ (∀ i, i < zs.length → w.cell? (x.add i) = some (.int k (zs.getD i 0))) ∧ ∀ n ∈ zs, (Lit.int k n).wf = true
set_option maxRecDepth 100000 in
theorem lifted (os : Os) (started : os.Started) (H : Type) (enc : TypeId × Value → H) :
    ReturnsInHanded {} Try.checked os 26 .any (Rows.fnDropAllSpec.pre6 enc Try.prog Try.f26 Rows.fnDropAllRow.domain false) (Rows.fnDropAllSpec.post enc Try.prog Try.f26 false true false false) := by
  refine returnsInHanded_of_change_sized (C := Try.checked) own started (by kernel_rfl) Try.func26
    (ChangeSpec.witness6 (enc := enc) (C := Try.checked) false ⟨#[], #[.slice none 0 0], []⟩ 8 (by kernel_rfl) (by kernel_rfl) (by kernel_rfl) (by kernel_rfl)) ?_
  intro W base args ds gs before hval0 hW hcnd hsz0 _
  have hsz : (DataW.weightsEach Try.prog (Try.f26.params.toList ++ Rows.fnDropAllSpec.plain.varTypes Try.prog) (ds ++ gs)).all (· ≤ reachBytes) = true := hsz0
  have hval : ∀ (j : Nat) t v, Try.f26.params[j]? = some t → args[j]? = some v → Value.okWide Try.prog W .any base t v := hval0
  have hW' := hW
  obtain ⟨p, q, hA0, hV, rfl, hfz, hnd⟩ := hW
  have hA : DataW.TrodAll enc Try.prog W 0 (fun _ => true) true Try.f26.params.toList args.toList ds p := hA0
  rw [Try.params26] at hA hval hsz
  obtain ⟨v0, vs0, d0, ds0, p0, q0, hargs, rfl, rfl, h0, r0⟩ := trodAll_cons hA
  obtain ⟨rfl, rfl, rfl⟩ := trodAll_nil r0
  obtain rfl : args = #[v0] := by cases args; simp_all
  obtain ⟨rfl, rfl⟩ := trodVars_none hV
  obtain ⟨a0, len0, cap0, rfl⟩ := okWide_slice Try.underlying22 (hval 0 22 v0 rfl rfl)
  have k0 := h0
  have lt0 : ∀ x ∈ p0, x.block < W.heap.size := by obtain ⟨m, hm⟩ := k0; exact DataW.trod_lt m _ _ _ hm
  obtain ⟨z0, w0⟩ : ∃ zs, IsRow .u8 W a0 len0 cap0 zs := by
    obtain ⟨fuel, hf⟩ := h0
    rcases open_ints Try.underlying22 Try.underlying5 (by kernel_rfl) hf with ⟨hcs, _⟩ | ⟨x, l, c, zs, hcs, _, hl, hm, hz, _, hcell, hwz⟩
    · simp [Value.cells] at hcs
      obtain ⟨rfl, rfl, rfl⟩ := hcs
      exact ⟨[], .inl ⟨rfl, rfl, rfl, rfl⟩⟩
    · simp [Value.cells] at hcs
      obtain ⟨rfl, rfl, rfl⟩ := hcs
      exact ⟨zs, .inr ⟨_, rfl, hl, hm, by simpa using hz, hcell, hwz⟩⟩
  have y0 : len0 * 1 ≤ 140737488351232 := Go.Proofs.YteonncnhhccgeaaW.PrintWords.sized_ints hsz (j := 0) (t := 22) rfl rfl Try.underlying22 Try.underlying5 (by kernel_rfl) (by kernel_rfl) h0
  obtain ⟨l0, rfl, hr0, hm0, hw0, hc0⟩ := Go.Proofs.YteonncnhhccgeaaW.PrintWords.ReadsInt.ofRowC w0
  clear hA0 hval0 hsz0 hsz
  refine (fnDropAll_walk _ _ l0 W (Go.Proofs.YteonncnhhccgeaaW.PrintWords.Kd.C_of_reads (d := (0 : Int)) (h1 := fun _ => rfl) hr0) hc0 y0 hw0).mono fun e W' ⟨he, bel⟩ => ?_
  subst he
  exact ⟨_, rfl, _, _, _, [], _, [], hW', trodAll_mk1 (shut_bool Try.underlying4 _), (trodAll_cons_mk (Below.trod laidOut (by kernel_rfl) (of_decide_eq_true (by kernel_rfl)) k0 bel lt0) trodAll_mk0), rfl, bel.frame _, fun h => by cases h⟩
set_option maxRecDepth 100000 in
theorem closed : joinedFacts Try.prog 26 Try.f26 Rows.fnDropAllSpec Rows.fnDropAllRow = true := by
  unfold joinedFacts
  refine Bool.and_eq_true_iff.2 ⟨Bool.and_eq_true_iff.2 ⟨Bool.and_eq_true_iff.2 ⟨Bool.and_eq_true_iff.2 ⟨Bool.and_eq_true_iff.2 ⟨Bool.and_eq_true_iff.2 ⟨Bool.and_eq_true_iff.2 ⟨?_, mayEnter_yes⟩, (congrArg (fun b => Rows.fnDropAllRow.lifted == b) liftsFinal_no).trans (by kernel_rfl)⟩, (congrArg (fun b => b == some Rows.fnDropAllRow.make) make_cut).trans (by kernel_rfl)⟩, ?_⟩, ?_⟩, ?_⟩, ?_⟩
  all_goals kernel_rfl
theorem over : Rows.fnDropAllRow.holds Try.pinned (OpenSpec.ofChange Rows.fnDropAllSpec) :=
  OpenClaim.holds_of_wide 26 Try.f26 rfl rfl rfl rfl rfl rfl rfl ⟨rfl, rfl, rfl, rfl, rfl⟩ rfl rfl rfl rfl rfl (by kernel_rfl) Try.func26 closed
    (of_decide_eq_true (by kernel_rfl)) (by unfold Func.isWrapper; first | (rw [if_pos (by decide +kernel)]; kernel_rfl) | (rw [if_neg (by decide +kernel)]; exact ⟨rfl, rfl⟩))
    (fun os started H enc _ => lifted os started H enc)
end Go.Proofs.Yteonncnhhccgeaa.fnDropAll
namespace Go.Proofs.Yteonncnhhccgeaa
/-- The row. -/
theorem fnDropAll_holds : Rows.FnDropAllSaid := fnDropAll.over
#print axioms fnDropAll_holds
end Go.Proofs.Yteonncnhhccgeaa
end
