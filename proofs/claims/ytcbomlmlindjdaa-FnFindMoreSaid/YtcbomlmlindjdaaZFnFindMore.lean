/- A scope that no binding has changes nothing. For every input the law FnFindMore returns true, and leaves its input alone. No condition. -/
import Derived.Below
import Derived.ChangeOld
import Derived.JoinedOf
import Derived.KernelRfl
import Derived.OpenShut
import Derived.ProofKit
import Derived.RowKit3
import Derived.ShutString
import Derived.SizedLaws
import Derived.Test.YtcbomlmlindjdaaRows
import Derived.WalkKit
import Derived.Test.YtcbomlmlindjdaaKd1
import Derived.Test.YtcbomlmlindjdaaKd5
import Derived.Test.YtcbomlmlindjdaaKd6
section
namespace Go.Proofs.Ytcbomlmlindjdaa
open Go.RowKit Go.Proofs.YtcbomlmlindjdaaW.PrintWords Go.Proofs.YtcbomlmlindjdaaW.PrintLast Go.Proofs.YtcbomlmlindjdaaW.PrintMore
set_option linter.unusedVariables false
set_option linter.unusedSimpArgs false
set_option maxHeartbeats 4000000 in
set_option maxRecDepth 100000 in
theorem fnFindMore_walk (A0 : Option Addr) (c0 : Nat) (l0 : List Int) (w : World)
    (hr0 : (Kd.int .u8).C w A0 l0.length l0) (hc0 : l0.length ≤ c0) (y0 : l0.length * 1 ≤ 140737488351232) (hw0 : ∀ n ∈ l0, (Lit.int .u8 n).wf = true) :
    Calls Try.prog 14 #[.slice A0 l0.length c0] w fun e w' => e = .returned (.bool true) ∧ Below w.heap.size w w' := by
  by_cases g0 : l0.length ≤ 1048576
  rotate_left
  · have t0 : decide ((l0.length : Int) > 1048576) = true := decide_eq_true (by omega)
    have t0' : decide (1048576 < l0.length) = true := decide_eq_true (by omega)
    go_enter Try.func14, Try.ntmps14
    go_wp2_with fail
    go_ret
    exact ⟨rfl, Below.refl _ _⟩
  obtain ⟨bl, x, hbl, hx, D0⟩ := dDrawFindName l0 (fun z hz => byteOk (hw0 z hz))
  replace D0 := Lib.hid D0
  have hsm := hbl.B (by omega)
  have hbl1 := hbl.1
  have HSM := Lib.hid hsm
  rcases h1 : findR bl x with ⟨a, c⟩
  have H1 := Lib.hid h1
  have n1 : (a != a) = false := by simp
  have n2 : (c != c) = false := by simp
  have n3 : (a == a) = true := by simp
  have n4 : (c == c) = true := by simp
  clear h1 hsm hbl
  rcases h2 : reS (fun l => putS l 77) 77 x with ⟨z, t⟩
  have hzt := reS_tot (fun l => putS l 77) 77 x
  rw [h2] at hzt
  obtain ⟨bv, h5⟩ : ∃ t, pB (BdsOk bl) = t := ⟨_, rfl⟩
  obtain ⟨sv, h6⟩ : ∃ t, sameR bl x z = t := ⟨_, rfl⟩
  have h3 : t = true → x.f0 = 1 → (∀ b, b ∈ bl → (77 : Int) ∉ b.f1) → findR bl z = (a, c) ∧ (c = 2 ∨ bv = false ∨ sv = true) := fun h h0 hn => by
    subst h
    obtain ⟨e1, e2⟩ := find_more h2 h0 hn
    rw [H1.out] at e1 e2
    refine ⟨e1, ?_⟩
    rcases e2 with e | e | e
    · exact .inl e
    · exact .inr (.inl (by rw [← h5]; exact (pB_no e).symm ▸ rfl))
    · exact .inr (.inr (by rw [← h6]; exact e))
  have H2 := Lib.hid h2
  have H3 := Lib.hid h3
  have H5 := Lib.hid h5
  have H6 := Lib.hid h6
  clear h2 h3 h5 h6
  have t0 : decide ((l0.length : Int) > 1048576) = false := decide_eq_false (by omega)
  have t0' : decide (1048576 < l0.length) = false := decide_eq_false (by omega)
  go_enter Try.func14, Try.ntmps14
  go_wp2_with fail
  refine (D0.out A0 c0 _ hr0 hc0).mono ?_
  rintro e w1 ⟨lA, lc, X_3, X_c3, X_4, X_c4, rfl, hcl, hCl, i, b⟩
  have I := Lib.hid i
  clear i
  have Ll := Lib.hid hCl
  have hlc_ := Lib.hid hcl
  clear hCl hcl
  have BW := Lib.hid b
  clear b
  have Ix := Lib.hid I.out
  clear I
  go_wp2_with fail
  refine (implFd H1.out HSM.out (by omega) _ _ _ _ _ _ _ (Kd.C_below Ll.out (below_new _ _)) hlc_.out (Ix.out.below (below_new _ _))).mono ?_
  rintro e w2 ⟨rfl, b⟩
  obtain ⟨k, b⟩ := one_new b
  replace Ix := Lib.hid (Ix.out.below b)
  replace Ll := Lib.hid (Kd.C_below Ll.out b)
  replace BW := Lib.hid (below_step BW.out b)
  have Kx := Lib.hid k
  clear k
  clear b
  obtain ⟨p0, p1, p2, p3, p4⟩ := fm_cells Kx.out
  go_wp2_with fail
  clear p0 p1 p2 p3 p4
  refine (specFd H1.out HSM.out (by omega) _ _ _ _ _ _ _ Ll.out hlc_.out Ix.out).mono ?_
  rintro e w3 ⟨rfl, b⟩
  replace Kx := Lib.hid (blk_below Kx.out b)
  replace Ix := Lib.hid (Ix.out.below b)
  replace Ll := Lib.hid (Kd.C_below Ll.out b)
  replace BW := Lib.hid (below_step BW.out b)
  clear b
  obtain ⟨p0, p1, p2, p3, p4⟩ := fm_cells Kx.out
  go_wp2_with fail
  clear p0 p1 p2 p3 p4
  refine (implAs H2.out _ _ _ _ _ Ix.out (by omega)).mono ?_
  rintro e w4 ⟨Z_3, Z_c3, Z_4, Z_c4, rfl, i, b⟩
  have I := Lib.hid i
  clear i
  replace Kx := Lib.hid (blk_below Kx.out b)
  replace Ix := Lib.hid (Ix.out.below b)
  replace Ll := Lib.hid (Kd.C_below Ll.out b)
  replace BW := Lib.hid (below_step BW.out b)
  clear b
  have Iz := Lib.hid I.out
  clear I
  rcases t with _ | _
  · obtain ⟨p0, p1, p2, p3, p4⟩ := fm_cells (blk_below Kx.out (below_new w4 (.cells #[.int .i64 z.f0, .string z.f1, .int .i64 z.f2, .slice Z_3 z.f3.length Z_c3, .slice Z_4 z.f4.length Z_c4] 30)))
    go_wp2_with fail
    clear p0 p1 p2 p3 p4
    go_ret
    exact ⟨rfl, by repeat (first | exact BW.out | refine below_alloc ?_ _)⟩
  · by_cases h0 : x.f0 = 1
    · have u0 : (x.f0 != 1) = false := by simp [h0]
      have H0 := Lib.hid h0
      clear h0
      obtain ⟨p0, p1, p2, p3, p4⟩ := fm_cells (blk_below Kx.out (below_new w4 (.cells #[.int .i64 z.f0, .string z.f1, .int .i64 z.f2, .slice Z_3 z.f3.length Z_c3, .slice Z_4 z.f4.length Z_c4] 30)))
      go_wp2_with fail
      clear p0 p1 p2 p3 p4
      have b := Below.refl (w4.alloc (.cells #[.int .i64 z.f0, .string z.f1, .int .i64 z.f2, .slice Z_3 z.f3.length Z_c3, .slice Z_4 z.f4.length Z_c4] 30)).heap.size (w4.alloc (.cells #[.int .i64 z.f0, .string z.f1, .int .i64 z.f2, .slice Z_3 z.f3.length Z_c3, .slice Z_4 z.f4.length Z_c4] 30))
      obtain ⟨k, b⟩ := one_new b
      replace Kx := Lib.hid (blk_below Kx.out b)
      replace Ix := Lib.hid (Ix.out.below b)
      replace Iz := Lib.hid (Iz.out.below b)
      replace Ll := Lib.hid (Kd.C_below Ll.out b)
      replace BW := Lib.hid (below_step BW.out b)
      have Kz := Lib.hid k
      clear k
      clear b
      generalize (w4.alloc (.cells #[.int .i64 z.f0, .string z.f1, .int .i64 z.f2, .slice Z_3 z.f3.length Z_c3, .slice Z_4 z.f4.length Z_c4] 30)) = wz at Kx Kz Ix Iz BW Ll ⊢
      go_loopg [11] bl.length (fun kq v11 w' => ∃ i : Nat, i ≤ bl.length ∧ bl.length - i ≤ kq ∧ v11 = .int .i64 i ∧ Aside0 (Below wz.heap.size wz w') ∧ Aside0 (∀ b, b ∈ bl.take i → (77 : Int) ∉ b.f1))
      case atStart => exact ⟨0, Nat.zero_le _, by omega, rfl, ⟨Below.refl _ _⟩, ⟨by simp⟩⟩
      case round =>
        obtain ⟨i, hi_i, hg_i, rfl, HW, HN⟩ := hrel
        replace Kx := Lib.hid (blk_below Kx.out HW.out)
        replace Kz := Lib.hid (blk_below Kz.out HW.out)
        replace Ix := Lib.hid (Ix.out.below HW.out)
        replace Iz := Lib.hid (Iz.out.below HW.out)
        replace Ll := Lib.hid (Kd.C_below Ll.out HW.out)
        replace BW := Lib.hid (below_step BW.out HW.out)
        replace HW := Lib.hid HW.out
        by_cases hlt_i : i < bl.length
        · obtain ⟨ad2, M1, mc, e3, z0, z1, z2, hk⟩ := bd_at Ll.out i hlt_i
          subst e3
          have k3 : (0 : Int) ≤ (i : Int) := by omega
          have k4 : (i : Int) < (bl.length : Int) := by omega
          have HK := Lib.hid hk
          clear z0 z2 hk
          go_wp2_with fail
          by_cases hm : (77 : Int) ∈ bl[i].f1
          · refine (mxInV (decide_eq_true hm) _ _ _ HK.out.g1 HK.out.l1).mono ?_
            rintro e w5 ⟨rfl, b⟩
            replace Kx := Lib.hid (blk_below Kx.out b)
            replace Kz := Lib.hid (blk_below Kz.out b)
            replace Ix := Lib.hid (Ix.out.below b)
            replace Iz := Lib.hid (Iz.out.below b)
            replace Ll := Lib.hid (Kd.C_below Ll.out b)
            replace HW := Lib.hid (below_step HW.out b)
            replace BW := Lib.hid (below_step BW.out b)
            clear b
            go_wp2_with fail
            go_ret
            exact ⟨rfl, by repeat (first | exact BW.out | refine below_alloc ?_ _)⟩
          · refine (mxInV (decide_eq_false hm) _ _ _ HK.out.g1 HK.out.l1).mono ?_
            rintro e w5 ⟨rfl, b⟩
            replace Kx := Lib.hid (blk_below Kx.out b)
            replace Kz := Lib.hid (blk_below Kz.out b)
            replace Ix := Lib.hid (Ix.out.below b)
            replace Iz := Lib.hid (Iz.out.below b)
            replace Ll := Lib.hid (Kd.C_below Ll.out b)
            replace HW := Lib.hid (below_step HW.out b)
            replace BW := Lib.hid (below_step BW.out b)
            clear b
            have HNX := Lib.hid (show ∀ b, b ∈ bl.take (i + 1) → (77 : Int) ∉ b.f1 from fun b hb => by
              rw [List.take_succ_eq_append_getElem hlt_i] at hb
              rcases List.mem_append.1 hb with h | h
              · exact HN.out b h
              · rw [List.mem_singleton.1 h]; exact hm)
            clear hm
            go_wp2_with fail
            go_roundg (bl.length - (i + 1))
            case measure => omega
            case rel => exact ⟨i + 1, by omega, Nat.le_refl _, by go_num, ⟨HW.out⟩, ⟨HNX.out⟩⟩
        · obtain rfl : i = bl.length := by omega
          have h3 := H3.out (by simp) H0.out (fun b hb => HN.out b (by rw [List.take_length]; exact hb))
          have HFZ := Lib.hid h3.1
          have HOR := Lib.hid h3.2
          clear h3
          obtain ⟨p0, p1, p2, p3, p4⟩ := fm_cells Kz.out
          go_wp2_with fail
          clear p0 p1 p2 p3 p4
          refine (implFd HFZ.out HSM.out (by omega) _ _ _ _ _ _ _ Ll.out hlc_.out Iz.out).mono ?_
          rintro e w5 ⟨rfl, b⟩
          replace Kx := Lib.hid (blk_below Kx.out b)
          replace Kz := Lib.hid (blk_below Kz.out b)
          replace Ix := Lib.hid (Ix.out.below b)
          replace Iz := Lib.hid (Iz.out.below b)
          replace Ll := Lib.hid (Kd.C_below Ll.out b)
          replace HW := Lib.hid (below_step HW.out b)
          replace BW := Lib.hid (below_step BW.out b)
          clear b
          by_cases hc2 : c = 2
          · subst hc2
            go_wp2_with fail
            go_ret
            exact ⟨rfl, by repeat (first | exact BW.out | refine below_alloc ?_ _)⟩
          · have u3 : (c == 2) = false := by simpa using hc2
            have HOR2 := Lib.hid (HOR.out.resolve_left hc2)
            clear hc2
            go_wp2_with fail
            refine (implBdV H5.out HSM.out _ _ _ Ll.out hlc_.out).mono ?_
            rintro e w6 ⟨rfl, b⟩
            replace Kx := Lib.hid (blk_below Kx.out b)
            replace Kz := Lib.hid (blk_below Kz.out b)
            replace Ix := Lib.hid (Ix.out.below b)
            replace Iz := Lib.hid (Iz.out.below b)
            replace Ll := Lib.hid (Kd.C_below Ll.out b)
            replace HW := Lib.hid (below_step HW.out b)
            replace BW := Lib.hid (below_step BW.out b)
            clear b
            rcases bv with _ | _
            · go_wp2_with fail
              go_ret
              exact ⟨rfl, by repeat (first | exact BW.out | refine below_alloc ?_ _)⟩
            · have hu2 : sv = true := HOR2.out.resolve_left (by simp)
              subst hu2
              obtain ⟨p0, p1, p2, p3, p4⟩ := fm_cells Kx.out
              obtain ⟨q0, q1, q2, q3, q4⟩ := fm_cells Kz.out
              go_wp2_with fail
              clear p0 p1 p2 p3 p4 q0 q1 q2 q3 q4
              refine (implSr H6.out HSM.out (by omega) (by omega) _ _ _ _ _ _ _ _ _ _ _ Ll.out hlc_.out Ix.out Iz.out).mono ?_
              rintro e w7 ⟨rfl, b⟩
              replace Kx := Lib.hid (blk_below Kx.out b)
              replace Kz := Lib.hid (blk_below Kz.out b)
              replace Ix := Lib.hid (Ix.out.below b)
              replace Iz := Lib.hid (Iz.out.below b)
              replace Ll := Lib.hid (Kd.C_below Ll.out b)
              replace HW := Lib.hid (below_step HW.out b)
              replace BW := Lib.hid (below_step BW.out b)
              clear b
              go_wp2_with fail
              go_ret
              exact ⟨rfl, by repeat (first | exact BW.out | refine below_alloc ?_ _)⟩
    · have u0 : (x.f0 != 1) = true := by simpa using h0
      have u0' : (x.f0 == 1) = false := by simpa using h0
      clear h0
      obtain ⟨p0, p1, p2, p3, p4⟩ := fm_cells (blk_below Kx.out (below_new w4 (.cells #[.int .i64 z.f0, .string z.f1, .int .i64 z.f2, .slice Z_3 z.f3.length Z_c3, .slice Z_4 z.f4.length Z_c4] 30)))
      go_wp2_with fail
      clear p0 p1 p2 p3 p4
      go_ret
      exact ⟨rfl, by repeat (first | exact BW.out | refine below_alloc ?_ _)⟩
end Go.Proofs.Ytcbomlmlindjdaa
end
section
namespace Go.Proofs.Ytcbomlmlindjdaa.fnFindMore
open Go.ChangeShapes Go.WideShapes Go.ChangeAt Go.RowKit Go.Proofs.Ytcbomlmlindjdaa
open Go.ChangeMaps (open_string shut_string)
set_option linter.unusedVariables false
theorem own : ownKnob Try.prog.godebug = none := by kernel_rfl
theorem laidOut : laidOutB Try.prog = true := by kernel_rfl
def IsRow (k : IntKind) (w : World) (a : Option Addr) (len cap : Nat) (zs : List Int) : Prop :=
  (a = none ∧ len = 0 ∧ cap = 0 ∧ zs = []) ∨
  ∃ x, a = some x ∧ len ≤ cap ∧ cap ≤ maxLen ∧ zs.length = cap ∧ (∀ i, i < zs.length → w.cell? (x.add i) = some (.int k (zs.getD i 0))) ∧ ∀ n ∈ zs, (Lit.int k n).wf = true
set_option maxRecDepth 100000 in
theorem lifted (os : Os) (started : os.Started) (H : Type) (enc : TypeId × Value → H) :
    ReturnsInHanded {} Try.checked os 14 .any (Rows.fnFindMoreSpec.pre6 enc Try.prog Try.f14 Rows.fnFindMoreRow.domain false) (Rows.fnFindMoreSpec.post enc Try.prog Try.f14 false true false false) := by
  refine returnsInHanded_of_change_sized (C := Try.checked) own started (by kernel_rfl) Try.func14
    (ChangeSpec.witness6 (enc := enc) (C := Try.checked) false ⟨#[], #[.slice none 0 0], []⟩ 8 (by kernel_rfl) (by kernel_rfl) (by kernel_rfl) (by kernel_rfl)) ?_
  intro W base args ds gs before hval0 hW hcnd hsz0 _
  have hsz : (DataW.weightsEach Try.prog (Try.f14.params.toList ++ Rows.fnFindMoreSpec.plain.varTypes Try.prog) (ds ++ gs)).all (· ≤ reachBytes) = true := hsz0
  have hval : ∀ (j : Nat) t v, Try.f14.params[j]? = some t → args[j]? = some v → Value.okWide Try.prog W .any base t v := hval0
  have hW' := hW
  obtain ⟨p, q, hA0, hV, rfl, hfz, hnd⟩ := hW
  have hA : DataW.TrodAll enc Try.prog W 0 (fun _ => true) true Try.f14.params.toList args.toList ds p := hA0
  rw [Try.params14] at hA hval hsz
  obtain ⟨v0, vs0, d0, ds0, p0, q0, hargs, rfl, rfl, h0, r0⟩ := trodAll_cons hA
  obtain ⟨rfl, rfl, rfl⟩ := trodAll_nil r0
  obtain rfl : args = #[v0] := by cases args; simp_all
  obtain ⟨rfl, rfl⟩ := trodVars_none hV
  obtain ⟨a0, len0, cap0, rfl⟩ := okWide_slice Try.underlying22 (hval 0 22 v0 rfl rfl)
  have k0 := h0
  have lt0 : ∀ x ∈ p0, x.block < W.heap.size := by obtain ⟨m, hm⟩ := k0; exact DataW.trod_lt m _ _ _ hm
  obtain ⟨z0, w0⟩ : ∃ zs, IsRow .u8 W a0 len0 cap0 zs := by
    obtain ⟨fuel, hf⟩ := h0
    rcases open_ints Try.underlying22 Try.underlying5 (by kernel_rfl) hf with ⟨hcs, _⟩ | ⟨x, l, c, zs, hcs, _, hl, hm, hz, _, hcell, hwz⟩
    · simp [Value.cells] at hcs
      obtain ⟨rfl, rfl, rfl⟩ := hcs
      exact ⟨[], .inl ⟨rfl, rfl, rfl, rfl⟩⟩
    · simp [Value.cells] at hcs
      obtain ⟨rfl, rfl, rfl⟩ := hcs
      exact ⟨zs, .inr ⟨_, rfl, hl, hm, by simpa using hz, hcell, hwz⟩⟩
  have y0 : len0 * 1 ≤ 140737488351232 := Go.Proofs.YtcbomlmlindjdaaW.PrintWords.sized_ints hsz (j := 0) (t := 22) rfl rfl Try.underlying22 Try.underlying5 (by kernel_rfl) (by kernel_rfl) h0
  obtain ⟨l0, rfl, hr0, hm0, hw0, hc0⟩ := Go.Proofs.YtcbomlmlindjdaaW.PrintWords.ReadsInt.ofRowC w0
  clear hA0 hval0 hsz0 hsz
  refine (fnFindMore_walk _ _ l0 W (Go.Proofs.YtcbomlmlindjdaaW.PrintWords.Kd.C_of_reads (d := (0 : Int)) (h1 := fun _ => rfl) hr0) hc0 y0 hw0).mono fun e W' ⟨he, bel⟩ => ?_
  subst he
  exact ⟨_, rfl, _, _, _, [], _, [], hW', trodAll_mk1 (shut_bool Try.underlying4 _), (trodAll_cons_mk (Below.trod laidOut (by kernel_rfl) (of_decide_eq_true (by kernel_rfl)) k0 bel lt0) trodAll_mk0), rfl, bel.frame _, fun h => by cases h⟩
set_option maxRecDepth 100000 in
theorem closed : joinedFacts Try.prog 14 Try.f14 Rows.fnFindMoreSpec Rows.fnFindMoreRow = true := by
  unfold joinedFacts
  refine Bool.and_eq_true_iff.2 ⟨Bool.and_eq_true_iff.2 ⟨Bool.and_eq_true_iff.2 ⟨Bool.and_eq_true_iff.2 ⟨Bool.and_eq_true_iff.2 ⟨Bool.and_eq_true_iff.2 ⟨Bool.and_eq_true_iff.2 ⟨?_, mayEnter_yes⟩, (congrArg (fun b => Rows.fnFindMoreRow.lifted == b) liftsFinal_no).trans (by kernel_rfl)⟩, (congrArg (fun b => b == some Rows.fnFindMoreRow.make) make_cut).trans (by kernel_rfl)⟩, ?_⟩, ?_⟩, ?_⟩, ?_⟩
  all_goals kernel_rfl
theorem over : Rows.fnFindMoreRow.holds Try.pinned (OpenSpec.ofChange Rows.fnFindMoreSpec) :=
  OpenClaim.holds_of_wide 14 Try.f14 rfl rfl rfl rfl rfl rfl rfl ⟨rfl, rfl, rfl, rfl, rfl⟩ rfl rfl rfl rfl rfl (by kernel_rfl) Try.func14 closed
    (of_decide_eq_true (by kernel_rfl)) (by unfold Func.isWrapper; first | (rw [if_pos (by decide +kernel)]; kernel_rfl) | (rw [if_neg (by decide +kernel)]; exact ⟨rfl, rfl⟩))
    (fun os started H enc _ => lifted os started H enc)
end Go.Proofs.Ytcbomlmlindjdaa.fnFindMore
namespace Go.Proofs.Ytcbomlmlindjdaa
/-- The row. -/
theorem fnFindMore_holds : Rows.FnFindMoreSaid := fnFindMore.over
#print axioms fnFindMore_holds
end Go.Proofs.Ytcbomlmlindjdaa
end
