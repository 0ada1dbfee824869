/- A name has a fitting binding whose scopes have those of all fitting ones. For every input the law FnFindName returns true, and leaves its input alone. No condition. -/
import Derived.Below
import Derived.ChangeOld
import Derived.JoinedOf
import Derived.KernelRfl
import Derived.OpenShut
import Derived.ProofKit
import Derived.RowKit3
import Derived.ShutString
import Derived.SizedLaws
import Derived.Test.YtcbomlmlindjdaaRows
import Derived.WalkKit
import Derived.Test.YtcbomlmlindjdaaKa1
import Derived.Test.YtcbomlmlindjdaaKa5
import Derived.Test.YtcbomlmlindjdaaKa6
section
namespace Go.Proofs.Ytcbomlmlindjdaa
open Go.RowKit Go.Proofs.YtcbomlmlindjdaaW.PrintWords Go.Proofs.YtcbomlmlindjdaaW.PrintLast Go.Proofs.YtcbomlmlindjdaaW.PrintMore
set_option linter.unusedVariables false
set_option linter.unusedSimpArgs false
set_option maxHeartbeats 4000000 in
set_option maxRecDepth 100000 in
theorem fnFindName_walk (A0 : Option Addr) (c0 : Nat) (l0 : List Int) (w : World)
    (hr0 : (Kd.int .u8).C w A0 l0.length l0) (hc0 : l0.length ≤ c0) (y0 : l0.length * 1 ≤ 140737488351232) (hw0 : ∀ n ∈ l0, (Lit.int .u8 n).wf = true) :
    Calls Try.prog 7 #[.slice A0 l0.length c0] w fun e w' => e = .returned (.bool true) ∧ Below w.heap.size w w' := by
  by_cases g0 : l0.length ≤ 1048576
  rotate_left
  · have t0 : decide ((l0.length : Int) > 1048576) = true := decide_eq_true (by omega)
    have t0' : decide (1048576 < l0.length) = true := decide_eq_true (by omega)
    go_enter Try.func7, Try.ntmps7
    go_wp2_with fail
    go_ret
    exact ⟨rfl, Below.refl _ _⟩
  obtain ⟨bl, x, hbl, hx, D0⟩ := dDrawFindName l0 (fun z hz => byteOk (hw0 z hz))
  replace D0 := Lib.hid D0
  have hsm := hbl.B (by omega)
  have hbl1 := hbl.1
  have HSM := Lib.hid hsm
  rcases h1 : findR bl x with ⟨a, c⟩
  have H1 := Lib.hid h1
  have n1 : (a != a) = false := by simp
  have n2 : (c != c) = false := by simp
  have n3 : (a == a) = true := by simp
  have n4 : (c == c) = true := by simp
  clear h1 hsm hbl
  obtain ⟨f, hf⟩ : ∃ f, fittingR bl x = f := ⟨_, rfl⟩
  have HF := Lib.hid hf
  have hfl : f.length ≤ 102 := by rw [← hf]; exact Nat.le_trans (fitting_le bl x) hbl1
  clear hf
  have t0 : decide ((l0.length : Int) > 1048576) = false := decide_eq_false (by omega)
  have t0' : decide (1048576 < l0.length) = false := decide_eq_false (by omega)
  go_enter Try.func7, Try.ntmps7
  go_wp2_with fail
  refine (D0.out A0 c0 _ hr0 hc0).mono ?_
  rintro e w1 ⟨lA, lc, X_3, X_c3, X_4, X_c4, rfl, hcl, hCl, i, b⟩
  have I := Lib.hid i
  clear i
  have Ll := Lib.hid hCl
  have hlc_ := Lib.hid hcl
  clear hCl hcl
  have BW := Lib.hid b
  clear b
  have Ix := Lib.hid I.out
  clear I
  go_wp2_with fail
  refine (implFd H1.out HSM.out (by omega) _ _ _ _ _ _ _ (Kd.C_below Ll.out (below_new _ _)) hlc_.out (Ix.out.below (below_new _ _))).mono ?_
  rintro e w2 ⟨rfl, b⟩
  obtain ⟨k, b⟩ := one_new b
  replace Ix := Lib.hid (Ix.out.below b)
  replace Ll := Lib.hid (Kd.C_below Ll.out b)
  replace BW := Lib.hid (below_step BW.out b)
  have Kx := Lib.hid k
  clear k
  clear b
  obtain ⟨p0, p1, p2, p3, p4⟩ := fm_cells Kx.out
  go_wp2_with fail
  clear p0 p1 p2 p3 p4
  refine (specFd H1.out HSM.out (by omega) _ _ _ _ _ _ _ Ll.out hlc_.out Ix.out).mono ?_
  rintro e w3 ⟨rfl, b⟩
  replace Kx := Lib.hid (blk_below Kx.out b)
  replace Ix := Lib.hid (Ix.out.below b)
  replace Ll := Lib.hid (Kd.C_below Ll.out b)
  replace BW := Lib.hid (below_step BW.out b)
  clear b
  obtain ⟨p0, p1, p2, p3, p4⟩ := fm_cells Kx.out
  go_wp2_with fail
  clear p0 p1 p2 p3 p4
  refine (implFt HF.out HSM.out (by omega) _ _ _ _ _ _ _ Ll.out hlc_.out Ix.out).mono ?_
  rintro e w4 ⟨fA, fc, rfl, hcf, hCf, b⟩
  have Lf := Lib.hid hCf
  have hfc_ := Lib.hid hcf
  clear hCf hcf
  replace Kx := Lib.hid (blk_below Kx.out b)
  replace Ix := Lib.hid (Ix.out.below b)
  replace Ll := Lib.hid (Kd.C_below Ll.out b)
  replace BW := Lib.hid (below_step BW.out b)
  clear b
  by_cases hc1 : c = 1
  · subst hc1
    have HCL := Lib.hid (find_close HF.out H1.out)
    go_wp2_with fail
    go_loopg [10] f.length (fun kq v10 w' => ∃ i : Nat, i ≤ f.length ∧ f.length - i ≤ kq ∧ v10 = .int .i64 i ∧ Aside0 (Below w4.heap.size w4 w') ∧ Aside0 (∀ j (hj : j < f.length), j < i → ((bdAt bl f[j].toNat).f2 == a && bestL bl f f[j]) = false))
    case atStart => exact ⟨0, Nat.zero_le _, by omega, rfl, ⟨Below.refl _ _⟩, ⟨fun j hj h => absurd h (Nat.not_lt_zero _)⟩⟩
    case round =>
      obtain ⟨i, hi_i, hg_i, rfl, HW, HN⟩ := hrel
      replace Kx := Lib.hid (blk_below Kx.out HW.out)
      replace Ix := Lib.hid (Ix.out.below HW.out)
      replace Ll := Lib.hid (Kd.C_below Ll.out HW.out)
      replace Lf := Lib.hid (Kd.C_below Lf.out HW.out)
      replace BW := Lib.hid (below_step BW.out HW.out)
      replace HW := Lib.hid HW.out
      by_cases hlt_i : i < f.length
      · obtain ⟨ad_i, e_i, g_i⟩ := int_at Lf.out i hlt_i
        subst e_i
        obtain ⟨j, hj, ej, _⟩ := fit_place HF.out i hlt_i
        rw [ej] at g_i
        obtain ⟨ad2, M1, mc, e3, z0, z1, z2, hk⟩ := bd_at Ll.out j hj
        subst e3
        have k1 : (0 : Int) ≤ (j : Int) := by omega
        have k2 : (j : Int) < (bl.length : Int) := by omega
        have k3 : (0 : Int) ≤ (i : Int) := by omega
        have k4 : (i : Int) < (f.length : Int) := by omega
        have HK := Lib.hid hk
        have HBA := Lib.hid (show bdAt bl ((j : Int)).toNat = bl[j] from by rw [Int.toNat_natCast, bdAt_eq hj])
        have HEJ := Lib.hid ej
        clear hk ej
        go_wp2_with fail
        have b := Below.refl (wr.alloc (.cells #[.string bl[j].f0, .slice M1 bl[j].f1.length mc, .int .i64 bl[j].f2] 36)).heap.size (wr.alloc (.cells #[.string bl[j].f0, .slice M1 bl[j].f1.length mc, .int .i64 bl[j].f2] 36))
        obtain ⟨kb, b⟩ := one_new b
        replace Kx := Lib.hid (blk_below Kx.out b)
        replace Ix := Lib.hid (Ix.out.below b)
        replace Ll := Lib.hid (Kd.C_below Ll.out b)
        replace Lf := Lib.hid (Kd.C_below Lf.out b)
        replace HW := Lib.hid (below_step HW.out b)
        replace BW := Lib.hid (below_step BW.out b)
        clear b
        have KB := Lib.hid kb
        clear kb z0 z1 z2
        replace HK := Lib.hid (HK.out.below (below_new _ (.cells #[.string bl[j].f0, .slice M1 bl[j].f1.length mc, .int .i64 bl[j].f2] 36)))
        generalize wr.alloc (.cells #[.string bl[j].f0, .slice M1 bl[j].f1.length mc, .int .i64 bl[j].f2] 36) = wq at Kx Ix BW Ll Lf HW KB HK ⊢
        generalize hbq : wr.heap.size = bq at KB ⊢
        clear hbq
        go_loopg [12, 13] f.length (fun kq v12 v13 w' => ∃ k : Nat, k ≤ f.length ∧ f.length - k ≤ kq ∧ v12 = .bool (bl[j].f2 == a && bestI bl f (j : Int) k) ∧ v13 = .int .i64 k ∧ Aside0 (Below wq.heap.size wq w'))
        case atStart => exact ⟨0, Nat.zero_le _, by omega, by rw [bestI_zero, Bool.and_true], rfl, ⟨Below.refl _ _⟩⟩
        case round =>
          obtain ⟨k, hk_, hgk, rfl, rfl, HV⟩ := hrel
          replace Kx := Lib.hid (blk_below Kx.out HV.out)
          replace Ix := Lib.hid (Ix.out.below HV.out)
          replace Ll := Lib.hid (Kd.C_below Ll.out HV.out)
          replace Lf := Lib.hid (Kd.C_below Lf.out HV.out)
          replace HW := Lib.hid (below_step HW.out HV.out)
          replace KB := Lib.hid (blk_below KB.out HV.out)
          replace HK := Lib.hid (HK.out.below HV.out)
          replace BW := Lib.hid (below_step BW.out HV.out)
          replace HV := Lib.hid HV.out
          by_cases hltk : k < f.length
          · obtain ⟨ad3, e4, g3⟩ := int_at Lf.out k hltk
            cases e4
            obtain ⟨p, hp, ep, _⟩ := fit_place HF.out k hltk
            rw [ep] at g3
            obtain ⟨ad4, N1, nc, e5, y0, y1, y2, hkp⟩ := bd_at Ll.out p hp
            cases e5
            have k5 : (0 : Int) ≤ (p : Int) := by omega
            have k6 : (p : Int) < (bl.length : Int) := by omega
            have k7 : (0 : Int) ≤ (k : Int) := by omega
            have k8 : (k : Int) < (f.length : Int) := by omega
            have hbn := bestI_next bl f (j : Int) hltk
            rw [ep] at hbn
            have hsub : (∀ s, s ∈ bl[p].f1 → s ∈ bl[j].f1) ↔ subI bl (p : Int) (j : Int) = true := by rw [subI_iff, Int.toNat_natCast, Int.toNat_natCast, bdAt_eq hp, bdAt_eq hj]
            have HSW := Lib.hid (fun W hb => withinV hsub N1 M1 nc mc W (Kd.C_below hkp.g1 hb) hkp.l1 (Kd.C_below HK.out.g1 hb) HK.out.l1)
            have HBN := Lib.hid hbn
            obtain ⟨q0, q1, q2⟩ := bd_cells KB.out
            rcases hcur : (bl[j].f2 == a && bestI bl f (j : Int) k) with _ | _
            · have HBV := Lib.hid (show (bl[j].f2 == a && bestI bl f (j : Int) (k + 1)) = false from by rw [hbn, ← Bool.and_assoc, hcur]; rfl)
              clear y0 y2 hkp hbn hsub hcur ep
              go_wp2_with fail
              go_quiet (fail)
              go_wp2_with fail
              go_roundg (f.length - (k + 1))
              case measure => omega
              case rel => exact ⟨k + 1, by omega, Nat.le_refl _, by rw [HBV.out], by go_num, ⟨pw_below_drewN HV.out _⟩⟩
            · obtain ⟨r, hr⟩ : ∃ r, subI bl (p : Int) (j : Int) = r := ⟨_, rfl⟩
              rw [hr] at HSW hbn
              have HBV := Lib.hid (show (bl[j].f2 == a && bestI bl f (j : Int) (k + 1)) = r from by rw [hbn, ← Bool.and_assoc, hcur]; rfl)
              clear y0 y2 hkp hbn hsub hcur ep hr HBN
              go_wp2_with fail
              go_region_held3 (fun W => W.cell? (ad_i.add k) = some (.int .i64 (p : Int)) ∧ W.cell? ⟨(ad2.add (p * 3)).block, (ad2.add (p * 3)).off + 1, none⟩ = some (.slice N1 bl[p].f1.length nc) ∧ W.cell? ⟨bq, 1, none⟩ = some (.slice M1 bl[j].f1.length mc)) (first | go_keep | exact ⟨ck0 (below_step (Below.refl _ _).drew hb1) g3, ck0 (below_step (Below.refl _ _).drew hb1) y1, ck0 (below_step (Below.refl _ _).drew hb1) q1⟩) ((go_at_call 26; refine (HSW.out _ (Below.refl _ _).drew).mono ?_; rintro e w9 ⟨rfl, hb1⟩))
              have HB := Lib.hid (below_step HV.out (below_step (Below.refl _ _).drew hb1))
              clear hb1 g3 y1 q0 q1 q2 HSW
              go_wp2_with fail
              go_roundg (f.length - (k + 1))
              case measure => omega
              case rel => exact ⟨k + 1, by omega, Nat.le_refl _, by rw [HBV.out], by go_num, ⟨HB.out⟩⟩
          · obtain rfl : k = f.length := by omega
            rcases hcur : (bl[j].f2 == a && bestI bl f (j : Int) f.length) with _ | _
            · have HNB := Lib.hid (show ((bdAt bl f[i].toNat).f2 == a && bestL bl f f[i]) = false from by rw [HEJ.out, HBA.out]; exact hcur)
              clear hcur
              have HNX := Lib.hid (show ∀ j2 (hj2 : j2 < f.length), j2 < i + 1 → ((bdAt bl f[j2].toNat).f2 == a && bestL bl f f[j2]) = false from fun j2 hj2 hl => by
                by_cases e : j2 = i
                · subst e; exact HNB.out
                · exact HN.out j2 hj2 (by omega))
              go_wp2_with fail
              go_roundg (f.length - (i + 1))
              case measure => omega
              case rel => exact ⟨i + 1, by omega, Nat.le_refl _, by go_num, ⟨HW.out⟩, ⟨HNX.out⟩⟩
            · clear hcur
              go_wp2_with fail
              go_ret
              exact ⟨rfl, by repeat (first | exact BW.out | refine below_alloc ?_ _)⟩
      · obtain rfl : i = f.length := by omega
        exfalso
        obtain ⟨i2, hi2, hb1, hb2⟩ := HCL.out
        have := HN.out i2 hi2 hi2
        rw [hb1, beq_self_eq_true, Bool.true_and] at this
        rw [show bestL bl f f[i2] = true from by
          unfold bestL bestI
          rw [List.take_length, List.all_eq_true]
          intro j2 hj2
          obtain ⟨k2, hk2, rfl⟩ := List.getElem_of_mem hj2
          exact hb2 k2 hk2] at this
        cases this
  · have u1 : (c != 1) = true := by simpa using hc1
    have e1 := find_not1 (l := bl) (x := x) (by rw [H1.out]; exact hc1)
    rw [H1.out, HF.out] at e1
    obtain ⟨rfl, e2⟩ := e1
    clear hc1
    by_cases hc0 : c = 0
    · have u2 : (c == 0) = true := beq_iff_eq.mpr hc0
      have u3 : ((f.length : Int) == 0) = true := by rw [beq_iff_eq]; have := e2.1 hc0; omega
      have u4 : (f.length == 0) = true := by rw [beq_iff_eq]; exact e2.1 hc0
      clear e2 hc0
      go_wp2_with fail
      go_ret
      exact ⟨rfl, by repeat (first | exact BW.out | refine below_alloc ?_ _)⟩
    · have u2 : (c == 0) = false := by simpa using hc0
      have u3 : ((f.length : Int) == 0) = false := by rw [beq_eq_false_iff_ne]; exact fun h => hc0 (e2.2 (by omega))
      have u4 : (f.length == 0) = false := by rw [beq_eq_false_iff_ne]; exact fun h => hc0 (e2.2 h)
      clear e2 hc0
      go_wp2_with fail
      go_ret
      exact ⟨rfl, by repeat (first | exact BW.out | refine below_alloc ?_ _)⟩
end Go.Proofs.Ytcbomlmlindjdaa
end
section
namespace Go.Proofs.Ytcbomlmlindjdaa.fnFindName
open Go.ChangeShapes Go.WideShapes Go.ChangeAt Go.RowKit Go.Proofs.Ytcbomlmlindjdaa
open Go.ChangeMaps (open_string shut_string)
set_option linter.unusedVariables false
theorem own : ownKnob Try.prog.godebug = none := by kernel_rfl
theorem laidOut : laidOutB Try.prog = true := by kernel_rfl
def IsRow (k : IntKind) (w : World) (a : Option Addr) (len cap : Nat) (zs : List Int) : Prop :=
  (a = none ∧ len = 0 ∧ cap = 0 ∧ zs = []) ∨
  ∃ x, a = some x ∧ len ≤ cap ∧ cap ≤ maxLen ∧ zs.length = cap ∧ (∀ i, i < zs.length → w.cell? (x.add i) = some (.int k (zs.getD i 0))) ∧ ∀ n ∈ zs, (Lit.int k n).wf = true
set_option maxRecDepth 100000 in
theorem lifted (os : Os) (started : os.Started) (H : Type) (enc : TypeId × Value → H) :
    ReturnsInHanded {} Try.checked os 7 .any (Rows.fnFindNameSpec.pre6 enc Try.prog Try.f7 Rows.fnFindNameRow.domain false) (Rows.fnFindNameSpec.post enc Try.prog Try.f7 false true false false) := by
  refine returnsInHanded_of_change_sized (C := Try.checked) own started (by kernel_rfl) Try.func7
    (ChangeSpec.witness6 (enc := enc) (C := Try.checked) false ⟨#[], #[.slice none 0 0], []⟩ 8 (by kernel_rfl) (by kernel_rfl) (by kernel_rfl) (by kernel_rfl)) ?_
  intro W base args ds gs before hval0 hW hcnd hsz0 _
  have hsz : (DataW.weightsEach Try.prog (Try.f7.params.toList ++ Rows.fnFindNameSpec.plain.varTypes Try.prog) (ds ++ gs)).all (· ≤ reachBytes) = true := hsz0
  have hval : ∀ (j : Nat) t v, Try.f7.params[j]? = some t → args[j]? = some v → Value.okWide Try.prog W .any base t v := hval0
  have hW' := hW
  obtain ⟨p, q, hA0, hV, rfl, hfz, hnd⟩ := hW
  have hA : DataW.TrodAll enc Try.prog W 0 (fun _ => true) true Try.f7.params.toList args.toList ds p := hA0
  rw [Try.params7] at hA hval hsz
  obtain ⟨v0, vs0, d0, ds0, p0, q0, hargs, rfl, rfl, h0, r0⟩ := trodAll_cons hA
  obtain ⟨rfl, rfl, rfl⟩ := trodAll_nil r0
  obtain rfl : args = #[v0] := by cases args; simp_all
  obtain ⟨rfl, rfl⟩ := trodVars_none hV
  obtain ⟨a0, len0, cap0, rfl⟩ := okWide_slice Try.underlying22 (hval 0 22 v0 rfl rfl)
  have k0 := h0
  have lt0 : ∀ x ∈ p0, x.block < W.heap.size := by obtain ⟨m, hm⟩ := k0; exact DataW.trod_lt m _ _ _ hm
  obtain ⟨z0, w0⟩ : ∃ zs, IsRow .u8 W a0 len0 cap0 zs := by
    obtain ⟨fuel, hf⟩ := h0
    rcases open_ints Try.underlying22 Try.underlying5 (by kernel_rfl) hf with ⟨hcs, _⟩ | ⟨x, l, c, zs, hcs, _, hl, hm, hz, _, hcell, hwz⟩
    · simp [Value.cells] at hcs
      obtain ⟨rfl, rfl, rfl⟩ := hcs
      exact ⟨[], .inl ⟨rfl, rfl, rfl, rfl⟩⟩
    · simp [Value.cells] at hcs
      obtain ⟨rfl, rfl, rfl⟩ := hcs
      exact ⟨zs, .inr ⟨_, rfl, hl, hm, by simpa using hz, hcell, hwz⟩⟩
  have y0 : len0 * 1 ≤ 140737488351232 := Go.Proofs.YtcbomlmlindjdaaW.PrintWords.sized_ints hsz (j := 0) (t := 22) rfl rfl Try.underlying22 Try.underlying5 (by kernel_rfl) (by kernel_rfl) h0
  obtain ⟨l0, rfl, hr0, hm0, hw0, hc0⟩ := Go.Proofs.YtcbomlmlindjdaaW.PrintWords.ReadsInt.ofRowC w0
  clear hA0 hval0 hsz0 hsz
  refine (fnFindName_walk _ _ l0 W (Go.Proofs.YtcbomlmlindjdaaW.PrintWords.Kd.C_of_reads (d := (0 : Int)) (h1 := fun _ => rfl) hr0) hc0 y0 hw0).mono fun e W' ⟨he, bel⟩ => ?_
  subst he
  exact ⟨_, rfl, _, _, _, [], _, [], hW', trodAll_mk1 (shut_bool Try.underlying4 _), (trodAll_cons_mk (Below.trod laidOut (by kernel_rfl) (of_decide_eq_true (by kernel_rfl)) k0 bel lt0) trodAll_mk0), rfl, bel.frame _, fun h => by cases h⟩
set_option maxRecDepth 100000 in
theorem closed : joinedFacts Try.prog 7 Try.f7 Rows.fnFindNameSpec Rows.fnFindNameRow = true := by
  unfold joinedFacts
  refine Bool.and_eq_true_iff.2 ⟨Bool.and_eq_true_iff.2 ⟨Bool.and_eq_true_iff.2 ⟨Bool.and_eq_true_iff.2 ⟨Bool.and_eq_true_iff.2 ⟨Bool.and_eq_true_iff.2 ⟨Bool.and_eq_true_iff.2 ⟨?_, mayEnter_yes⟩, (congrArg (fun b => Rows.fnFindNameRow.lifted == b) liftsFinal_no).trans (by kernel_rfl)⟩, (congrArg (fun b => b == some Rows.fnFindNameRow.make) make_cut).trans (by kernel_rfl)⟩, ?_⟩, ?_⟩, ?_⟩, ?_⟩
  all_goals kernel_rfl
theorem over : Rows.fnFindNameRow.holds Try.pinned (OpenSpec.ofChange Rows.fnFindNameSpec) :=
  OpenClaim.holds_of_wide 7 Try.f7 rfl rfl rfl rfl rfl rfl rfl ⟨rfl, rfl, rfl, rfl, rfl⟩ rfl rfl rfl rfl rfl (by kernel_rfl) Try.func7 closed
    (of_decide_eq_true (by kernel_rfl)) (by unfold Func.isWrapper; first | (rw [if_pos (by decide +kernel)]; kernel_rfl) | (rw [if_neg (by decide +kernel)]; exact ⟨rfl, rfl⟩))
    (fun os started H enc _ => lifted os started H enc)
end Go.Proofs.Ytcbomlmlindjdaa.fnFindName
namespace Go.Proofs.Ytcbomlmlindjdaa
/-- The row. -/
theorem fnFindName_holds : Rows.FnFindNameSaid := fnFindName.over
#print axioms fnFindName_holds
end Go.Proofs.Ytcbomlmlindjdaa
end
