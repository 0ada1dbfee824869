/- Names are the same both ways, and stay so with a further scope. For every input the law FnSameName returns true, and leaves its input alone. No condition. -/
import Derived.Below
import Derived.ChangeOld
import Derived.JoinedOf
import Derived.KernelRfl
import Derived.OpenShut
import Derived.ProofKit
import Derived.RowKit3
import Derived.ShutString
import Derived.SizedLaws
import Derived.Test.YteonncnhhccgeaaRows
import Derived.WalkKit
import Derived.Test.YteonncnhhccgeaaPk1
import Derived.Test.YteonncnhhccgeaaPk4
section
namespace Go.Proofs.Yteonncnhhccgeaa
open Go.RowKit Go.Proofs.YteonncnhhccgeaaW.PrintWords Go.Proofs.YteonncnhhccgeaaW.PrintLast Go.Proofs.YteonncnhhccgeaaW.PrintMore
set_option linter.unusedVariables false
set_option linter.unusedSimpArgs false
set_option maxHeartbeats 4000000 in
set_option maxRecDepth 100000 in
theorem fnSameName_walk (A0 : Option Addr) (c0 : Nat) (l0 : List Int) (w : World)
    (hr0 : (Kd.int .u8).C w A0 l0.length l0) (hc0 : l0.length ≤ c0) (y0 : l0.length * 1 ≤ 140737488351232) (hw0 : ∀ n ∈ l0, (Lit.int .u8 n).wf = true) :
    Calls Try.prog 18 #[.slice A0 l0.length c0] w fun e w' => e = .returned (.bool true) ∧ Below w.heap.size w w' := by
  by_cases g0 : l0.length ≤ 1048576
  rotate_left
  · have t0 : decide ((l0.length : Int) > 1048576) = true := decide_eq_true (by omega)
    have t0' : decide (1048576 < l0.length) = true := decide_eq_true (by omega)
    go_enter Try.func18, Try.ntmps18
    go_wp2_with fail
    go_ret
    exact ⟨rfl, Below.refl _ _⟩
  obtain ⟨x, y, hx, hy, hx0, hx3, D0⟩ := drawSame l0 (fun z hz => byteOk (hw0 z hz))
  replace D0 := Lib.hid D0
  replace hx0 := Lib.hid hx0
  have t0 : decide ((l0.length : Int) > 1048576) = false := decide_eq_false (by omega)
  have t0' : decide (1048576 < l0.length) = false := decide_eq_false (by omega)
  go_enter Try.func18, Try.ntmps18
  go_wp2_with fail
  refine (D0.out A0 c0 _ hr0 hc0).mono ?_
  rintro e w1 ⟨X_3, X_c3, X_4, X_c4, Y_3, Y_c3, Y_4, Y_c4, rfl, i, j, b⟩
  have I := Lib.hid i
  clear i
  have J := Lib.hid j
  clear j
  have BW := Lib.hid b
  clear b
  have Ix := Lib.hid I.out
  clear I
  have Iy := Lib.hid J.out
  clear J
  go_wp2_with fail
  obtain ⟨k, k', b⟩ := two_new (Below.refl ((w1.alloc (.cells #[.int .i64 x.f0, .string x.f1, .int .i64 x.f2, .slice X_3 x.f3.length X_c3, .slice X_4 x.f4.length X_c4] 31)).alloc (.cells #[.int .i64 y.f0, .string y.f1, .int .i64 y.f2, .slice Y_3 y.f3.length Y_c3, .slice Y_4 y.f4.length Y_c4] 31)).heap.size ((w1.alloc (.cells #[.int .i64 x.f0, .string x.f1, .int .i64 x.f2, .slice X_3 x.f3.length X_c3, .slice X_4 x.f4.length X_c4] 31)).alloc (.cells #[.int .i64 y.f0, .string y.f1, .int .i64 y.f2, .slice Y_3 y.f3.length Y_c3, .slice Y_4 y.f4.length Y_c4] 31)))
  replace Ix := Lib.hid (Ix.out.below b)
  replace Iy := Lib.hid (Iy.out.below b)
  replace BW := Lib.hid (below_step BW.out b)
  clear b
  have Kx := Lib.hid k
  clear k
  have Ky := Lib.hid k'
  clear k'
  generalize ((w1.alloc (.cells #[.int .i64 x.f0, .string x.f1, .int .i64 x.f2, .slice X_3 x.f3.length X_c3, .slice X_4 x.f4.length X_c4] 31)).alloc (.cells #[.int .i64 y.f0, .string y.f1, .int .i64 y.f2, .slice Y_3 y.f3.length Y_c3, .slice Y_4 y.f4.length Y_c4] 31)) = wz at Kx Ky Ix Iy BW ⊢
  rcases sm_cases x y with ⟨hok, h1, hxy, hv⟩ | ⟨hv, hw⟩
  · subst hxy
    obtain ⟨z, hz, hzt, hzz⟩ := sm_add hok h1 hx3
    clear hok h1 hx0
    refine (implSm' hv _ _ _ _ _ _ _ _ _ Ix.out Iy.out (by omega) (by omega)).mono ?_
    rintro e w2 ⟨rfl, b⟩
    replace Kx := Lib.hid (blk_below Kx.out b)
    replace Ky := Lib.hid (blk_below Ky.out b)
    replace Ix := Lib.hid (Ix.out.below b)
    replace Iy := Lib.hid (Iy.out.below b)
    replace BW := Lib.hid (below_step BW.out b)
    clear b
    obtain ⟨p0, p1, p2, p3, p4⟩ := fm_cells Kx.out
    obtain ⟨q0, q1, q2, q3, q4⟩ := fm_cells Ky.out
    go_wp2_with fail
    clear p0 p1 p2 p3 p4 q0 q1 q2 q3 q4
    refine (specSm' hv _ _ _ _ _ _ _ _ _ Ix.out Iy.out (by omega) (by omega)).mono ?_
    rintro e w3 ⟨rfl, b⟩
    replace Kx := Lib.hid (blk_below Kx.out b)
    replace Ky := Lib.hid (blk_below Ky.out b)
    replace Ix := Lib.hid (Ix.out.below b)
    replace Iy := Lib.hid (Iy.out.below b)
    replace BW := Lib.hid (below_step BW.out b)
    clear b
    obtain ⟨p0, p1, p2, p3, p4⟩ := fm_cells Kx.out
    obtain ⟨q0, q1, q2, q3, q4⟩ := fm_cells Ky.out
    go_wp2_with fail
    clear p0 p1 p2 p3 p4 q0 q1 q2 q3 q4
    refine (implSm' hv _ _ _ _ _ _ _ _ _ Iy.out Ix.out (by omega) (by omega)).mono ?_
    rintro e w4 ⟨rfl, b⟩
    replace Kx := Lib.hid (blk_below Kx.out b)
    replace Ky := Lib.hid (blk_below Ky.out b)
    replace Ix := Lib.hid (Ix.out.below b)
    replace Iy := Lib.hid (Iy.out.below b)
    replace BW := Lib.hid (below_step BW.out b)
    clear b
    obtain ⟨p0, p1, p2, p3, p4⟩ := fm_cells Kx.out
    go_wp2_with fail
    clear p0 p1 p2 p3 p4
    refine (implGAdd' hz _ _ _ _ _ Ix.out (by omega)).mono ?_
    rintro e w5 ⟨P_3, P_c3, P_4, P_c4, rfl, i, b⟩
    have I := Lib.hid i
    clear i
    replace Kx := Lib.hid (blk_below Kx.out b)
    replace Ky := Lib.hid (blk_below Ky.out b)
    replace Ix := Lib.hid (Ix.out.below b)
    replace Iy := Lib.hid (Iy.out.below b)
    replace BW := Lib.hid (below_step BW.out b)
    clear b
    have Ip := Lib.hid I.out
    clear I
    obtain ⟨p0, p1, p2, p3, p4⟩ := fm_cells (blk_below Ky.out (below_new w5 (.cells #[.int .i64 z.f0, .string z.f1, .int .i64 z.f2, .slice P_3 z.f3.length P_c3, .slice P_4 z.f4.length P_c4] 31)))
    go_wp2_with fail
    clear p0 p1 p2 p3 p4
    refine (implGAdd' hz _ _ _ _ _ (Iy.out.below (below_new _ _)) (by omega)).mono ?_
    rintro e w6 ⟨Q_3, Q_c3, Q_4, Q_c4, rfl, i, b⟩
    have I := Lib.hid i
    clear i
    obtain ⟨k, b⟩ := one_new b
    replace Kx := Lib.hid (blk_below Kx.out b)
    replace Ky := Lib.hid (blk_below Ky.out b)
    replace Ix := Lib.hid (Ix.out.below b)
    replace Iy := Lib.hid (Iy.out.below b)
    replace Ip := Lib.hid (Ip.out.below b)
    replace BW := Lib.hid (below_step BW.out b)
    have Kp := Lib.hid k
    clear k
    clear b
    have Iq := Lib.hid I.out
    clear I
    obtain ⟨p0, p1, p2, p3, p4⟩ := fm_cells (blk_below Kx.out (below_new w6 (.cells #[.int .i64 z.f0, .string z.f1, .int .i64 z.f2, .slice Q_3 z.f3.length Q_c3, .slice Q_4 z.f4.length Q_c4] 31)))
    obtain ⟨q0, q1, q2, q3, q4⟩ := fm_cells (blk_below Ky.out (below_new w6 (.cells #[.int .i64 z.f0, .string z.f1, .int .i64 z.f2, .slice Q_3 z.f3.length Q_c3, .slice Q_4 z.f4.length Q_c4] 31)))
    go_wp2_with fail
    clear p0 p1 p2 p3 p4 q0 q1 q2 q3 q4
    refine (sameT x _ _ _ _ _ _ _ _ _ (Ix.out.below (below_new _ _)) (Iy.out.below (below_new _ _))).mono ?_
    rintro e w7 ⟨rfl, b⟩
    obtain ⟨k, b⟩ := one_new b
    replace Kx := Lib.hid (blk_below Kx.out b)
    replace Ky := Lib.hid (blk_below Ky.out b)
    replace Kp := Lib.hid (blk_below Kp.out b)
    replace Ix := Lib.hid (Ix.out.below b)
    replace Iy := Lib.hid (Iy.out.below b)
    replace Ip := Lib.hid (Ip.out.below b)
    replace Iq := Lib.hid (Iq.out.below b)
    replace BW := Lib.hid (below_step BW.out b)
    have Kq := Lib.hid k
    clear k
    clear b
    obtain ⟨p0, p1, p2, p3, p4⟩ := fm_cells Kp.out
    obtain ⟨q0, q1, q2, q3, q4⟩ := fm_cells Kq.out
    go_wp2_with fail
    clear p0 p1 p2 p3 p4 q0 q1 q2 q3 q4
    refine (implSm' hzz _ _ _ _ _ _ _ _ _ Ip.out Iq.out (by omega) (by omega)).mono ?_
    rintro e w8 ⟨rfl, b⟩
    replace Kx := Lib.hid (blk_below Kx.out b)
    replace Ky := Lib.hid (blk_below Ky.out b)
    replace Kp := Lib.hid (blk_below Kp.out b)
    replace Kq := Lib.hid (blk_below Kq.out b)
    replace Ix := Lib.hid (Ix.out.below b)
    replace Iy := Lib.hid (Iy.out.below b)
    replace Ip := Lib.hid (Ip.out.below b)
    replace Iq := Lib.hid (Iq.out.below b)
    replace BW := Lib.hid (below_step BW.out b)
    clear b
    go_wp2_with fail
    go_ret
    exact ⟨rfl, by repeat (first | exact BW.out | refine below_alloc ?_ _)⟩
  · refine (implSm' hv _ _ _ _ _ _ _ _ _ Ix.out Iy.out (by omega) (by omega)).mono ?_
    rintro e w2 ⟨rfl, b⟩
    replace Kx := Lib.hid (blk_below Kx.out b)
    replace Ky := Lib.hid (blk_below Ky.out b)
    replace Ix := Lib.hid (Ix.out.below b)
    replace Iy := Lib.hid (Iy.out.below b)
    replace BW := Lib.hid (below_step BW.out b)
    clear b
    obtain ⟨p0, p1, p2, p3, p4⟩ := fm_cells Kx.out
    obtain ⟨q0, q1, q2, q3, q4⟩ := fm_cells Ky.out
    go_wp2_with fail
    clear p0 p1 p2 p3 p4 q0 q1 q2 q3 q4
    refine (specSm' hv _ _ _ _ _ _ _ _ _ Ix.out Iy.out (by omega) (by omega)).mono ?_
    rintro e w3 ⟨rfl, b⟩
    replace Kx := Lib.hid (blk_below Kx.out b)
    replace Ky := Lib.hid (blk_below Ky.out b)
    replace Ix := Lib.hid (Ix.out.below b)
    replace Iy := Lib.hid (Iy.out.below b)
    replace BW := Lib.hid (below_step BW.out b)
    clear b
    obtain ⟨p0, p1, p2, p3, p4⟩ := fm_cells Kx.out
    obtain ⟨q0, q1, q2, q3, q4⟩ := fm_cells Ky.out
    go_wp2_with fail
    clear p0 p1 p2 p3 p4 q0 q1 q2 q3 q4
    refine (implSm' hw _ _ _ _ _ _ _ _ _ Iy.out Ix.out (by omega) (by omega)).mono ?_
    rintro e w4 ⟨rfl, b⟩
    replace Kx := Lib.hid (blk_below Kx.out b)
    replace Ky := Lib.hid (blk_below Ky.out b)
    replace Ix := Lib.hid (Ix.out.below b)
    replace Iy := Lib.hid (Iy.out.below b)
    replace BW := Lib.hid (below_step BW.out b)
    clear b
    obtain ⟨p0, p1, p2, p3, p4⟩ := fm_cells Kx.out
    obtain ⟨q0, q1, q2, q3, q4⟩ := fm_cells Ky.out
    go_wp2_with fail
    clear p0 p1 p2 p3 p4 q0 q1 q2 q3 q4
    refine (specSm' hv _ _ _ _ _ _ _ _ _ Ix.out Iy.out (by omega) (by omega)).mono ?_
    rintro e w5 ⟨rfl, b⟩
    replace Kx := Lib.hid (blk_below Kx.out b)
    replace Ky := Lib.hid (blk_below Ky.out b)
    replace Ix := Lib.hid (Ix.out.below b)
    replace Iy := Lib.hid (Iy.out.below b)
    replace BW := Lib.hid (below_step BW.out b)
    clear b
    obtain ⟨p0, p1, p2, p3, p4⟩ := fm_cells Kx.out
    obtain ⟨q0, q1, q2, q3, q4⟩ := fm_cells Ky.out
    go_wp2_with fail
    clear p0 p1 p2 p3 p4 q0 q1 q2 q3 q4
    refine (implSm' hw _ _ _ _ _ _ _ _ _ Iy.out Ix.out (by omega) (by omega)).mono ?_
    rintro e w6 ⟨rfl, b⟩
    replace Kx := Lib.hid (blk_below Kx.out b)
    replace Ky := Lib.hid (blk_below Ky.out b)
    replace Ix := Lib.hid (Ix.out.below b)
    replace Iy := Lib.hid (Iy.out.below b)
    replace BW := Lib.hid (below_step BW.out b)
    clear b
    go_wp2_with fail
    go_ret
    exact ⟨rfl, by repeat (first | exact BW.out | refine below_alloc ?_ _)⟩
end Go.Proofs.Yteonncnhhccgeaa
end
section
namespace Go.Proofs.Yteonncnhhccgeaa.fnSameName
open Go.ChangeShapes Go.WideShapes Go.ChangeAt Go.RowKit Go.Proofs.Yteonncnhhccgeaa
open Go.ChangeMaps (open_string shut_string)
set_option linter.unusedVariables false
theorem own : ownKnob Try.prog.godebug = none := by kernel_rfl
theorem laidOut : laidOutB Try.prog = true := by kernel_rfl
def IsRow (k : IntKind) (w : World) (a : Option Addr) (len cap : Nat) (zs : List Int) : Prop :=
  (a = none ∧ len = 0 ∧ cap = 0 ∧ zs = []) ∨
  ∃ x, a = some x ∧ len ≤ cap ∧ cap ≤ maxLen ∧ zs.length = cap ∧ (∀ i, i < zs.length → w.cell? (x.add i) = some (.int k (zs.getD i 0))) ∧ ∀ n ∈ zs, (Lit.int k n).wf = true
set_option maxRecDepth 100000 in
theorem lifted (os : Os) (started : os.Started) (H : Type) (enc : TypeId × Value → H) :
    ReturnsInHanded {} Try.checked os 18 .any (Rows.fnSameNameSpec.pre6 enc Try.prog Try.f18 Rows.fnSameNameRow.domain false) (Rows.fnSameNameSpec.post enc Try.prog Try.f18 false true false false) := by
  refine returnsInHanded_of_change_sized (C := Try.checked) own started (by kernel_rfl) Try.func18
    (ChangeSpec.witness6 (enc := enc) (C := Try.checked) false ⟨#[], #[.slice none 0 0], []⟩ 8 (by kernel_rfl) (by kernel_rfl) (by kernel_rfl) (by kernel_rfl)) ?_
  intro W base args ds gs before hval0 hW hcnd hsz0 _
  have hsz : (DataW.weightsEach Try.prog (Try.f18.params.toList ++ Rows.fnSameNameSpec.plain.varTypes Try.prog) (ds ++ gs)).all (· ≤ reachBytes) = true := hsz0
  have hval : ∀ (j : Nat) t v, Try.f18.params[j]? = some t → args[j]? = some v → Value.okWide Try.prog W .any base t v := hval0
  have hW' := hW
  obtain ⟨p, q, hA0, hV, rfl, hfz, hnd⟩ := hW
  have hA : DataW.TrodAll enc Try.prog W 0 (fun _ => true) true Try.f18.params.toList args.toList ds p := hA0
  rw [Try.params18] at hA hval hsz
  obtain ⟨v0, vs0, d0, ds0, p0, q0, hargs, rfl, rfl, h0, r0⟩ := trodAll_cons hA
  obtain ⟨rfl, rfl, rfl⟩ := trodAll_nil r0
  obtain rfl : args = #[v0] := by cases args; simp_all
  obtain ⟨rfl, rfl⟩ := trodVars_none hV
  obtain ⟨a0, len0, cap0, rfl⟩ := okWide_slice Try.underlying22 (hval 0 22 v0 rfl rfl)
  have k0 := h0
  have lt0 : ∀ x ∈ p0, x.block < W.heap.size := by obtain ⟨m, hm⟩ := k0; exact DataW.trod_lt m _ _ _ hm
  obtain ⟨z0, w0⟩ : ∃ zs, IsRow .u8 W a0 len0 cap0 zs := by
    obtain ⟨fuel, hf⟩ := h0
    rcases open_ints Try.underlying22 Try.underlying5 (by kernel_rfl) hf with ⟨hcs, _⟩ | ⟨x, l, c, zs, hcs, _, hl, hm, hz, _, hcell, hwz⟩
    · simp [Value.cells] at hcs
      obtain ⟨rfl, rfl, rfl⟩ := hcs
      exact ⟨[], .inl ⟨rfl, rfl, rfl, rfl⟩⟩
    · simp [Value.cells] at hcs
      obtain ⟨rfl, rfl, rfl⟩ := hcs
      exact ⟨zs, .inr ⟨_, rfl, hl, hm, by simpa using hz, hcell, hwz⟩⟩
  have y0 : len0 * 1 ≤ 140737488351232 := Go.Proofs.YteonncnhhccgeaaW.PrintWords.sized_ints hsz (j := 0) (t := 22) rfl rfl Try.underlying22 Try.underlying5 (by kernel_rfl) (by kernel_rfl) h0
  obtain ⟨l0, rfl, hr0, hm0, hw0, hc0⟩ := Go.Proofs.YteonncnhhccgeaaW.PrintWords.ReadsInt.ofRowC w0
  clear hA0 hval0 hsz0 hsz
  refine (fnSameName_walk _ _ l0 W (Go.Proofs.YteonncnhhccgeaaW.PrintWords.Kd.C_of_reads (d := (0 : Int)) (h1 := fun _ => rfl) hr0) hc0 y0 hw0).mono fun e W' ⟨he, bel⟩ => ?_
  subst he
  exact ⟨_, rfl, _, _, _, [], _, [], hW', trodAll_mk1 (shut_bool Try.underlying4 _), (trodAll_cons_mk (Below.trod laidOut (by kernel_rfl) (of_decide_eq_true (by kernel_rfl)) k0 bel lt0) trodAll_mk0), rfl, bel.frame _, fun h => by cases h⟩
set_option maxRecDepth 100000 in
theorem closed : joinedFacts Try.prog 18 Try.f18 Rows.fnSameNameSpec Rows.fnSameNameRow = true := by
  unfold joinedFacts
  refine Bool.and_eq_true_iff.2 ⟨Bool.and_eq_true_iff.2 ⟨Bool.and_eq_true_iff.2 ⟨Bool.and_eq_true_iff.2 ⟨Bool.and_eq_true_iff.2 ⟨Bool.and_eq_true_iff.2 ⟨Bool.and_eq_true_iff.2 ⟨?_, mayEnter_yes⟩, (congrArg (fun b => Rows.fnSameNameRow.lifted == b) liftsFinal_no).trans (by kernel_rfl)⟩, (congrArg (fun b => b == some Rows.fnSameNameRow.make) make_cut).trans (by kernel_rfl)⟩, ?_⟩, ?_⟩, ?_⟩, ?_⟩
  all_goals kernel_rfl
theorem over : Rows.fnSameNameRow.holds Try.pinned (OpenSpec.ofChange Rows.fnSameNameSpec) :=
  OpenClaim.holds_of_wide 18 Try.f18 rfl rfl rfl rfl rfl rfl rfl ⟨rfl, rfl, rfl, rfl, rfl⟩ rfl rfl rfl rfl rfl (by kernel_rfl) Try.func18 closed
    (of_decide_eq_true (by kernel_rfl)) (by unfold Func.isWrapper; first | (rw [if_pos (by decide +kernel)]; kernel_rfl) | (rw [if_neg (by decide +kernel)]; exact ⟨rfl, rfl⟩))
    (fun os started H enc _ => lifted os started H enc)
end Go.Proofs.Yteonncnhhccgeaa.fnSameName
namespace Go.Proofs.Yteonncnhhccgeaa
/-- The row. -/
theorem fnSameName_holds : Rows.FnSameNameSaid := fnSameName.over
#print axioms fnSameName_holds
end Go.Proofs.Yteonncnhhccgeaa
end
