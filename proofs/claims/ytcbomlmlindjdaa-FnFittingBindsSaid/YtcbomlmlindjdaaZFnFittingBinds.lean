/- Bindings that fit a name fit it with more scopes. For every input the law FnFittingBinds returns true, and leaves its input alone. No condition. -/
import Derived.Below
import Derived.ChangeOld
import Derived.JoinedOf
import Derived.KernelRfl
import Derived.OpenShut
import Derived.ProofKit
import Derived.RowKit3
import Derived.ShutString
import Derived.SizedLaws
import Derived.Test.YtcbomlmlindjdaaRows
import Derived.WalkKit
import Derived.Test.YtcbomlmlindjdaaKd1
import Derived.Test.YtcbomlmlindjdaaKd5
import Derived.Test.YtcbomlmlindjdaaKd6
section
namespace Go.Proofs.Ytcbomlmlindjdaa
open Go.RowKit Go.Proofs.YtcbomlmlindjdaaW.PrintWords Go.Proofs.YtcbomlmlindjdaaW.PrintLast Go.Proofs.YtcbomlmlindjdaaW.PrintMore
set_option linter.unusedVariables false
set_option linter.unusedSimpArgs false
set_option maxHeartbeats 4000000 in
set_option maxRecDepth 100000 in
theorem fnFittingBinds_walk (A0 : Option Addr) (c0 : Nat) (l0 : List Int) (w : World)
    (hr0 : (Kd.int .u8).C w A0 l0.length l0) (hc0 : l0.length ≤ c0) (y0 : l0.length * 1 ≤ 140737488351232) (hw0 : ∀ n ∈ l0, (Lit.int .u8 n).wf = true) :
    Calls Try.prog 13 #[.slice A0 l0.length c0] w fun e w' => e = .returned (.bool true) ∧ Below w.heap.size w w' := by
  by_cases g0 : l0.length ≤ 1048576
  rotate_left
  · have t0 : decide ((l0.length : Int) > 1048576) = true := decide_eq_true (by omega)
    have t0' : decide (1048576 < l0.length) = true := decide_eq_true (by omega)
    go_enter Try.func13, Try.ntmps13
    go_wp2_with fail
    go_ret
    exact ⟨rfl, Below.refl _ _⟩
  obtain ⟨bl, x, hbl, hx, D0⟩ := dDrawFittingBinds l0 (fun z hz => byteOk (hw0 z hz))
  replace D0 := Lib.hid D0
  have hsm := hbl.B (by omega)
  have hbl1 := hbl.1
  have HSM := Lib.hid hsm
  obtain ⟨f, hf⟩ : ∃ f, fittingR bl x = f := ⟨_, rfl⟩
  rcases h2 : reS (fun l => putS l 3) 3 x with ⟨z, t⟩
  have hzt := reS_tot (fun l => putS l 3) 3 x
  rw [h2] at hzt
  obtain ⟨g, hg⟩ : ∃ g, fittingR bl z = g := ⟨_, rfl⟩
  have h3 : t = true → (∀ m, m ∈ f → m ∈ g) ∧ f.length ≤ g.length := fun h => by subst h; rw [← hf, ← hg]; exact fitting_more h2
  have HF := Lib.hid hf
  have HG := Lib.hid hg
  have hfl : f.length ≤ 102 := by rw [← hf]; exact Nat.le_trans (fitting_le bl x) hbl1
  have H2 := Lib.hid h2
  have H3 := Lib.hid h3
  clear hf hg h2 h3 hsm hbl
  have t0 : decide ((l0.length : Int) > 1048576) = false := decide_eq_false (by omega)
  have t0' : decide (1048576 < l0.length) = false := decide_eq_false (by omega)
  go_enter Try.func13, Try.ntmps13
  go_wp2_with fail
  refine (D0.out A0 c0 _ hr0 hc0).mono ?_
  rintro e w1 ⟨lA, lc, X_3, X_c3, X_4, X_c4, rfl, hcl, hCl, i, b⟩
  have I := Lib.hid i
  clear i
  have Ll := Lib.hid hCl
  have hlc_ := Lib.hid hcl
  clear hCl hcl
  have BW := Lib.hid b
  clear b
  have Ix := Lib.hid I.out
  clear I
  go_wp2_with fail
  refine (implFt HF.out HSM.out (by omega) _ _ _ _ _ _ _ (Kd.C_below Ll.out (below_new _ _)) hlc_.out (Ix.out.below (below_new _ _))).mono ?_
  rintro e w2 ⟨fA, fc, rfl, hcf, hCf, b⟩
  have Lf := Lib.hid hCf
  have hfc_ := Lib.hid hcf
  clear hCf hcf
  obtain ⟨k, b⟩ := one_new b
  replace Ix := Lib.hid (Ix.out.below b)
  replace Ll := Lib.hid (Kd.C_below Ll.out b)
  replace BW := Lib.hid (below_step BW.out b)
  have Kx := Lib.hid k
  clear k
  clear b
  obtain ⟨p0, p1, p2, p3, p4⟩ := fm_cells Kx.out
  go_wp2_with fail
  clear p0 p1 p2 p3 p4
  refine (implAs H2.out _ _ _ _ _ Ix.out (by omega)).mono ?_
  rintro e w3 ⟨Z_3, Z_c3, Z_4, Z_c4, rfl, i, b⟩
  have I := Lib.hid i
  clear i
  replace Kx := Lib.hid (blk_below Kx.out b)
  replace Ix := Lib.hid (Ix.out.below b)
  replace Ll := Lib.hid (Kd.C_below Ll.out b)
  replace Lf := Lib.hid (Kd.C_below Lf.out b)
  replace BW := Lib.hid (below_step BW.out b)
  clear b
  have Iz := Lib.hid I.out
  clear I
  obtain ⟨p0, p1, p2, p3, p4⟩ := fm_cells (blk_below Kx.out (below_new w3 (.cells #[.int .i64 z.f0, .string z.f1, .int .i64 z.f2, .slice Z_3 z.f3.length Z_c3, .slice Z_4 z.f4.length Z_c4] 30)))
  go_wp2_with fail
  clear p0 p1 p2 p3 p4
  refine (specFt HF.out HSM.out (by omega) _ _ _ _ _ _ _ (Kd.C_below Ll.out (below_new _ _)) hlc_.out (Ix.out.below (below_new _ _))).mono ?_
  rintro e w4 ⟨sA, sc, rfl, hcs, hCs, b⟩
  have Ls := Lib.hid hCs
  have hsc_ := Lib.hid hcs
  clear hCs hcs
  obtain ⟨k, b⟩ := one_new b
  replace Kx := Lib.hid (blk_below Kx.out b)
  replace Ix := Lib.hid (Ix.out.below b)
  replace Iz := Lib.hid (Iz.out.below b)
  replace Ll := Lib.hid (Kd.C_below Ll.out b)
  replace Lf := Lib.hid (Kd.C_below Lf.out b)
  replace BW := Lib.hid (below_step BW.out b)
  have Kz := Lib.hid k
  clear k
  clear b
  go_wp2_with fail
  refine (mxI f _ _ _ _ _ Lf.out hfc_.out Ls.out hsc_.out).mono ?_
  rintro e w5 ⟨rfl, b⟩
  replace Kx := Lib.hid (blk_below Kx.out b)
  replace Kz := Lib.hid (blk_below Kz.out b)
  replace Ix := Lib.hid (Ix.out.below b)
  replace Iz := Lib.hid (Iz.out.below b)
  replace Ll := Lib.hid (Kd.C_below Ll.out b)
  replace Lf := Lib.hid (Kd.C_below Lf.out b)
  replace Ls := Lib.hid (Kd.C_below Ls.out b)
  replace BW := Lib.hid (below_step BW.out b)
  clear b
  rcases t with _ | _
  · obtain ⟨p0, p1, p2, p3, p4⟩ := fm_cells Kx.out
    go_wp2_with fail
    clear p0 p1 p2 p3 p4
    refine (specFt HF.out HSM.out (by omega) _ _ _ _ _ _ _ Ll.out hlc_.out Ix.out).mono ?_
    rintro e w6 ⟨uA, uc, rfl, hcu, hCu, b⟩
    have Lu := Lib.hid hCu
    have huc_ := Lib.hid hcu
    clear hCu hcu
    replace Kx := Lib.hid (blk_below Kx.out b)
    replace Kz := Lib.hid (blk_below Kz.out b)
    replace Ix := Lib.hid (Ix.out.below b)
    replace Iz := Lib.hid (Iz.out.below b)
    replace Ll := Lib.hid (Kd.C_below Ll.out b)
    replace Lf := Lib.hid (Kd.C_below Lf.out b)
    replace Ls := Lib.hid (Kd.C_below Ls.out b)
    replace BW := Lib.hid (below_step BW.out b)
    clear b
    go_wp2_with fail
    refine (mxI f _ _ _ _ _ Lf.out hfc_.out Lu.out huc_.out).mono ?_
    rintro e w7 ⟨rfl, b⟩
    replace Kx := Lib.hid (blk_below Kx.out b)
    replace Kz := Lib.hid (blk_below Kz.out b)
    replace Ix := Lib.hid (Ix.out.below b)
    replace Iz := Lib.hid (Iz.out.below b)
    replace Ll := Lib.hid (Kd.C_below Ll.out b)
    replace Lf := Lib.hid (Kd.C_below Lf.out b)
    replace Ls := Lib.hid (Kd.C_below Ls.out b)
    replace Lu := Lib.hid (Kd.C_below Lu.out b)
    replace BW := Lib.hid (below_step BW.out b)
    clear b
    go_wp2_with fail
    go_ret
    exact ⟨rfl, by repeat (first | exact BW.out | refine below_alloc ?_ _)⟩
  · obtain ⟨p0, p1, p2, p3, p4⟩ := fm_cells Kz.out
    go_wp2_with fail
    clear p0 p1 p2 p3 p4
    refine (implFt HG.out HSM.out (by omega) _ _ _ _ _ _ _ Ll.out hlc_.out Iz.out).mono ?_
    rintro e w6 ⟨gA, gc, rfl, hcg, hCg, b⟩
    have Lg := Lib.hid hCg
    have hgc_ := Lib.hid hcg
    clear hCg hcg
    replace Kx := Lib.hid (blk_below Kx.out b)
    replace Kz := Lib.hid (blk_below Kz.out b)
    replace Ix := Lib.hid (Ix.out.below b)
    replace Iz := Lib.hid (Iz.out.below b)
    replace Ll := Lib.hid (Kd.C_below Ll.out b)
    replace Lf := Lib.hid (Kd.C_below Lf.out b)
    replace Ls := Lib.hid (Kd.C_below Ls.out b)
    replace BW := Lib.hid (below_step BW.out b)
    clear b
    go_wp2_with fail
    go_loopg [9] f.length (fun kq v9 w' => ∃ i : Nat, i ≤ f.length ∧ f.length - i ≤ kq ∧ v9 = .int .i64 i ∧ Aside0 (Below w6.heap.size w6 w'))
    case atStart => exact ⟨0, Nat.zero_le _, by omega, rfl, ⟨Below.refl _ _⟩⟩
    case round =>
      obtain ⟨i, hi_i, hg_i, rfl, HW⟩ := hrel
      replace Kx := Lib.hid (blk_below Kx.out HW.out)
      replace Kz := Lib.hid (blk_below Kz.out HW.out)
      replace Ix := Lib.hid (Ix.out.below HW.out)
      replace Iz := Lib.hid (Iz.out.below HW.out)
      replace Ll := Lib.hid (Kd.C_below Ll.out HW.out)
      replace Lf := Lib.hid (Kd.C_below Lf.out HW.out)
      replace Ls := Lib.hid (Kd.C_below Ls.out HW.out)
      replace Lg := Lib.hid (Kd.C_below Lg.out HW.out)
      replace BW := Lib.hid (below_step BW.out HW.out)
      replace HW := Lib.hid HW.out
      by_cases hlt_i : i < f.length
      · obtain ⟨ad_i, e_i, g_i⟩ := int_at Lf.out i hlt_i
        subst e_i
        obtain ⟨j, hj, ej, hfb⟩ := fit_place HF.out i hlt_i
        have hmem : decide ((j : Int) ∈ g) = true := decide_eq_true ((H3.out (by simp)).1 _ (by rw [← ej]; exact List.getElem_mem hlt_i))
        have hnm := (fitsB_iff.1 hfb).1
        rw [ej] at g_i
        obtain ⟨ad2, M1, mc, e3, z0, z1, z2, _⟩ := bd_at Ll.out j hj
        subst e3
        have k1 : (0 : Int) ≤ (j : Int) := by omega
        have k2 : (j : Int) < (bl.length : Int) := by omega
        have k3 : (0 : Int) ≤ (i : Int) := by omega
        have k4 : (i : Int) < (f.length : Int) := by omega
        have u5 : (bl[j].f0.toList == x.f1.toList) = true := beq_iff_eq.mpr hnm
        have HMX := Lib.hid (fun W hb => mxInV hmem gA gc W (Kd.C_below Lg.out hb) hgc_.out)
        clear z1 z2 hnm hfb ej hmem
        obtain ⟨p0, p1, p2, p3, p4⟩ := fm_cells Kx.out
        go_wp2_with fail
        go_region_held3 (fun W => W.cell? (ad_i.add i) = some (.int .i64 (j : Int)) ∧ W.cell? (ad2.add (j * 3)) = some (.string bl[j].f0) ∧ W.cell? ⟨w1.heap.size, 1, none⟩ = some (.string x.f1)) (first | go_keep | exact ⟨ck0 (below_step (Below.refl _ _).drew hb1) g_i, ck0 (below_step (Below.refl _ _).drew hb1) z0, ck0 (below_step (Below.refl _ _).drew hb1) p1⟩) ((go_at_call 32; refine (HMX.out _ (Below.refl _ _).drew).mono ?_; rintro e w9 ⟨rfl, hb1⟩))
        have HB := Lib.hid (below_step HW.out (below_step (Below.refl _ _).drew hb1))
        clear hb1 p0 p1 p2 p3 p4 HMX
        go_wp2_with fail
        go_roundg (f.length - (i + 1))
        case measure => omega
        case rel => exact ⟨i + 1, by omega, Nat.le_refl _, by go_num, ⟨HB.out⟩⟩
      · obtain rfl : i = f.length := by omega
        have d1 : decide ((g.length : Int) ≥ (f.length : Int)) = true := decide_eq_true (by have := (H3.out (by simp)).2; omega)
        have d2 : decide (f.length ≤ g.length) = true := decide_eq_true (by have := (H3.out (by simp)).2; omega)
        go_wp2_with fail
        go_ret
        exact ⟨rfl, by repeat (first | exact BW.out | refine below_alloc ?_ _)⟩
end Go.Proofs.Ytcbomlmlindjdaa
end
section
namespace Go.Proofs.Ytcbomlmlindjdaa.fnFittingBinds
open Go.ChangeShapes Go.WideShapes Go.ChangeAt Go.RowKit Go.Proofs.Ytcbomlmlindjdaa
open Go.ChangeMaps (open_string shut_string)
set_option linter.unusedVariables false
theorem own : ownKnob Try.prog.godebug = none := by kernel_rfl
theorem laidOut : laidOutB Try.prog = true := by kernel_rfl
def IsRow (k : IntKind) (w : World) (a : Option Addr) (len cap : Nat) (zs : List Int) : Prop :=
  (a = none ∧ len = 0 ∧ cap = 0 ∧ zs = []) ∨
  ∃ x, a = some x ∧ len ≤ cap ∧ cap ≤ maxLen ∧ zs.length = cap ∧ (∀ i, i < zs.length → w.cell? (x.add i) = some (.int k (zs.getD i 0))) ∧ ∀ n ∈ zs, (Lit.int k n).wf = true
set_option maxRecDepth 100000 in
theorem lifted (os : Os) (started : os.Started) (H : Type) (enc : TypeId × Value → H) :
    ReturnsInHanded {} Try.checked os 13 .any (Rows.fnFittingBindsSpec.pre6 enc Try.prog Try.f13 Rows.fnFittingBindsRow.domain false) (Rows.fnFittingBindsSpec.post enc Try.prog Try.f13 false true false false) := by
  refine returnsInHanded_of_change_sized (C := Try.checked) own started (by kernel_rfl) Try.func13
    (ChangeSpec.witness6 (enc := enc) (C := Try.checked) false ⟨#[], #[.slice none 0 0], []⟩ 8 (by kernel_rfl) (by kernel_rfl) (by kernel_rfl) (by kernel_rfl)) ?_
  intro W base args ds gs before hval0 hW hcnd hsz0 _
  have hsz : (DataW.weightsEach Try.prog (Try.f13.params.toList ++ Rows.fnFittingBindsSpec.plain.varTypes Try.prog) (ds ++ gs)).all (· ≤ reachBytes) = true := hsz0
  have hval : ∀ (j : Nat) t v, Try.f13.params[j]? = some t → args[j]? = some v → Value.okWide Try.prog W .any base t v := hval0
  have hW' := hW
  obtain ⟨p, q, hA0, hV, rfl, hfz, hnd⟩ := hW
  have hA : DataW.TrodAll enc Try.prog W 0 (fun _ => true) true Try.f13.params.toList args.toList ds p := hA0
  rw [Try.params13] at hA hval hsz
  obtain ⟨v0, vs0, d0, ds0, p0, q0, hargs, rfl, rfl, h0, r0⟩ := trodAll_cons hA
  obtain ⟨rfl, rfl, rfl⟩ := trodAll_nil r0
  obtain rfl : args = #[v0] := by cases args; simp_all
  obtain ⟨rfl, rfl⟩ := trodVars_none hV
  obtain ⟨a0, len0, cap0, rfl⟩ := okWide_slice Try.underlying22 (hval 0 22 v0 rfl rfl)
  have k0 := h0
  have lt0 : ∀ x ∈ p0, x.block < W.heap.size := by obtain ⟨m, hm⟩ := k0; exact DataW.trod_lt m _ _ _ hm
  obtain ⟨z0, w0⟩ : ∃ zs, IsRow .u8 W a0 len0 cap0 zs := by
    obtain ⟨fuel, hf⟩ := h0
    rcases open_ints Try.underlying22 Try.underlying5 (by kernel_rfl) hf with ⟨hcs, _⟩ | ⟨x, l, c, zs, hcs, _, hl, hm, hz, _, hcell, hwz⟩
    · simp [Value.cells] at hcs
      obtain ⟨rfl, rfl, rfl⟩ := hcs
      exact ⟨[], .inl ⟨rfl, rfl, rfl, rfl⟩⟩
    · simp [Value.cells] at hcs
      obtain ⟨rfl, rfl, rfl⟩ := hcs
      exact ⟨zs, .inr ⟨_, rfl, hl, hm, by simpa using hz, hcell, hwz⟩⟩
  have y0 : len0 * 1 ≤ 140737488351232 := Go.Proofs.YtcbomlmlindjdaaW.PrintWords.sized_ints hsz (j := 0) (t := 22) rfl rfl Try.underlying22 Try.underlying5 (by kernel_rfl) (by kernel_rfl) h0
  obtain ⟨l0, rfl, hr0, hm0, hw0, hc0⟩ := Go.Proofs.YtcbomlmlindjdaaW.PrintWords.ReadsInt.ofRowC w0
  clear hA0 hval0 hsz0 hsz
  refine (fnFittingBinds_walk _ _ l0 W (Go.Proofs.YtcbomlmlindjdaaW.PrintWords.Kd.C_of_reads (d := (0 : Int)) (h1 := fun _ => rfl) hr0) hc0 y0 hw0).mono fun e W' ⟨he, bel⟩ => ?_
  subst he
  exact ⟨_, rfl, _, _, _, [], _, [], hW', trodAll_mk1 (shut_bool Try.underlying4 _), (trodAll_cons_mk (Below.trod laidOut (by kernel_rfl) (of_decide_eq_true (by kernel_rfl)) k0 bel lt0) trodAll_mk0), rfl, bel.frame _, fun h => by cases h⟩
set_option maxRecDepth 100000 in
theorem closed : joinedFacts Try.prog 13 Try.f13 Rows.fnFittingBindsSpec Rows.fnFittingBindsRow = true := by
  unfold joinedFacts
  refine Bool.and_eq_true_iff.2 ⟨Bool.and_eq_true_iff.2 ⟨Bool.and_eq_true_iff.2 ⟨Bool.and_eq_true_iff.2 ⟨Bool.and_eq_true_iff.2 ⟨Bool.and_eq_true_iff.2 ⟨Bool.and_eq_true_iff.2 ⟨?_, mayEnter_yes⟩, (congrArg (fun b => Rows.fnFittingBindsRow.lifted == b) liftsFinal_no).trans (by kernel_rfl)⟩, (congrArg (fun b => b == some Rows.fnFittingBindsRow.make) make_cut).trans (by kernel_rfl)⟩, ?_⟩, ?_⟩, ?_⟩, ?_⟩
  all_goals kernel_rfl
theorem over : Rows.fnFittingBindsRow.holds Try.pinned (OpenSpec.ofChange Rows.fnFittingBindsSpec) :=
  OpenClaim.holds_of_wide 13 Try.f13 rfl rfl rfl rfl rfl rfl rfl ⟨rfl, rfl, rfl, rfl, rfl⟩ rfl rfl rfl rfl rfl (by kernel_rfl) Try.func13 closed
    (of_decide_eq_true (by kernel_rfl)) (by unfold Func.isWrapper; first | (rw [if_pos (by decide +kernel)]; kernel_rfl) | (rw [if_neg (by decide +kernel)]; exact ⟨rfl, rfl⟩))
    (fun os started H enc _ => lifted os started H enc)
end Go.Proofs.Ytcbomlmlindjdaa.fnFittingBinds
namespace Go.Proofs.Ytcbomlmlindjdaa
/-- The row. -/
theorem fnFittingBinds_holds : Rows.FnFittingBindsSaid := fnFittingBinds.over
#print axioms fnFittingBinds_holds
end Go.Proofs.Ytcbomlmlindjdaa
end
