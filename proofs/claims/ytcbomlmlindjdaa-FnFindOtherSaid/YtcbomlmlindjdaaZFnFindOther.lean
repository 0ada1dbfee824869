/- A binding of another name changes nothing. For every input the law FnFindOther returns true, and leaves its input alone. No condition. -/
import Derived.Below
import Derived.ChangeOld
import Derived.JoinedOf
import Derived.KernelRfl
import Derived.OpenShut
import Derived.ProofKit
import Derived.RowKit3
import Derived.ShutString
import Derived.SizedLaws
import Derived.Test.YtcbomlmlindjdaaRows
import Derived.WalkKit
import Derived.Test.YtcbomlmlindjdaaKc1
import Derived.Test.YtcbomlmlindjdaaKc5
import Derived.Test.YtcbomlmlindjdaaKc6
section
namespace Go.Proofs.Ytcbomlmlindjdaa
open Go.RowKit Go.Proofs.YtcbomlmlindjdaaW.PrintWords Go.Proofs.YtcbomlmlindjdaaW.PrintLast Go.Proofs.YtcbomlmlindjdaaW.PrintMore
set_option linter.unusedVariables false
set_option linter.unusedSimpArgs false
abbrev othF (x : Fm) : Fm := ⟨1, (⟨#[111, 116, 104, 101, 114]⟩ : ByteArray), 0, x.f3, []⟩
theorem othT : (⟨#[111, 116, 104, 101, 114]⟩ : ByteArray).toList = [111, 116, 104, 101, 114] := by kernel_rfl
set_option maxHeartbeats 4000000 in
set_option maxRecDepth 100000 in
theorem fnFindOther_walk (A0 : Option Addr) (c0 : Nat) (l0 : List Int) (w : World)
    (hr0 : (Kd.int .u8).C w A0 l0.length l0) (hc0 : l0.length ≤ c0) (y0 : l0.length * 1 ≤ 140737488351232) (hw0 : ∀ n ∈ l0, (Lit.int .u8 n).wf = true) :
    Calls Try.prog 10 #[.slice A0 l0.length c0] w fun e w' => e = .returned (.bool true) ∧ Below w.heap.size w w' := by
  by_cases g0 : l0.length ≤ 1048576
  rotate_left
  · have t0 : decide ((l0.length : Int) > 1048576) = true := decide_eq_true (by omega)
    have t0' : decide (1048576 < l0.length) = true := decide_eq_true (by omega)
    go_enter Try.func10, Try.ntmps10
    go_wp2_with fail
    go_ret
    exact ⟨rfl, Below.refl _ _⟩
  obtain ⟨bl, x, hbl, hx, D0⟩ := dDrawFindName l0 (fun z hz => byteOk (hw0 z hz))
  replace D0 := Lib.hid D0
  have hsm := hbl.B (by omega)
  have hbl1 := hbl.1
  have HSM := Lib.hid hsm
  rcases h1 : findR bl x with ⟨a, c⟩
  have H1 := Lib.hid h1
  have n1 : (a != a) = false := by simp
  have n2 : (c != c) = false := by simp
  have n3 : (a == a) = true := by simp
  have n4 : (c == c) = true := by simp
  clear h1 hsm hbl
  have hyt : (othF x).tot ≤ 8000 := by rw [Fm.tot_eq]; have := f3_tot x; show 5 + x.f3.length + 0 ≤ 8000; omega
  rcases h2 : addBindR bl (othF x) 777 with ⟨r, t⟩
  have h3 : t = true → SmB r ∧ (x.f1.toList ≠ (othF x).f1.toList → findR r x = (a, c)) := fun h => by
    subst h
    obtain ⟨_, _, h4, _⟩ := addBind_true h2
    exact ⟨(bdsOk_small h4).B (by omega), fun hne => (addBind_other h2 hne).trans H1.out⟩
  have H2 := Lib.hid h2
  have H3 := Lib.hid h3
  clear h2 h3
  have t0 : decide ((l0.length : Int) > 1048576) = false := decide_eq_false (by omega)
  have t0' : decide (1048576 < l0.length) = false := decide_eq_false (by omega)
  go_enter Try.func10, Try.ntmps10
  go_wp2_with fail
  refine (D0.out A0 c0 _ hr0 hc0).mono ?_
  rintro e w1 ⟨lA, lc, X_3, X_c3, X_4, X_c4, rfl, hcl, hCl, i, b⟩
  have I := Lib.hid i
  clear i
  have Ll := Lib.hid hCl
  have hlc_ := Lib.hid hcl
  clear hCl hcl
  have BW := Lib.hid b
  clear b
  have Ix := Lib.hid I.out
  clear I
  go_wp2_with fail
  refine (implFd H1.out HSM.out (by omega) _ _ _ _ _ _ _ (Kd.C_below Ll.out (below_new _ _)) hlc_.out (Ix.out.below (below_new _ _))).mono ?_
  rintro e w2 ⟨rfl, b⟩
  obtain ⟨k, b⟩ := one_new b
  replace Ix := Lib.hid (Ix.out.below b)
  replace Ll := Lib.hid (Kd.C_below Ll.out b)
  replace BW := Lib.hid (below_step BW.out b)
  have Kx := Lib.hid k
  clear k
  clear b
  obtain ⟨p0, p1, p2, p3, p4⟩ := fm_cells Kx.out
  go_wp2_with fail
  clear p0 p1 p2 p3 p4
  refine (specFd H1.out HSM.out (by omega) _ _ _ _ _ _ _ Ll.out hlc_.out Ix.out).mono ?_
  rintro e w3 ⟨rfl, b⟩
  replace Kx := Lib.hid (blk_below Kx.out b)
  replace Ix := Lib.hid (Ix.out.below b)
  replace Ll := Lib.hid (Kd.C_below Ll.out b)
  replace BW := Lib.hid (below_step BW.out b)
  clear b
  obtain ⟨p0, p1, p2, p3, p4⟩ := fm_cells Kx.out
  go_wp2_with fail
  clear p0 p1 p2 p3 p4
  have hyi : FmIn (w3.alloc (.cells #[.int .i64 1, .string (⟨#[111, 116, 104, 101, 114]⟩ : ByteArray), .int .i64 0, .slice X_3 x.f3.length X_c3, .slice none 0 0] 30)) (othF x) X_3 X_c3 none 0 := ⟨Ix.out.l3, Kd.C_below Ix.out.g3 (below_new _ _), Nat.le_refl 0, Kd.C_nil kF _⟩
  refine (implAb (x := othF x) H2.out HSM.out (by omega) _ _ _ _ _ _ _ (Kd.C_below Ll.out (below_new _ _)) hlc_.out hyi).mono ?_
  rintro e w4 ⟨rA, rc, rfl, hcr, hCr, b⟩
  replace b := (one_new b).2
  clear hyi
  have Lr := Lib.hid hCr
  have hrc_ := Lib.hid hcr
  clear hCr hcr
  replace Kx := Lib.hid (blk_below Kx.out b)
  replace Ix := Lib.hid (Ix.out.below b)
  replace Ll := Lib.hid (Kd.C_below Ll.out b)
  replace BW := Lib.hid (below_step BW.out b)
  clear b
  rcases t with _ | _
  · obtain ⟨p0, p1, p2, p3, p4⟩ := fm_cells Kx.out
    go_wp2_with fail
    clear p0 p1 p2 p3 p4
    go_ret
    exact ⟨rfl, by repeat (first | exact BW.out | refine below_alloc ?_ _)⟩
  · have h3 := H3.out rfl
    have HSR := Lib.hid h3.1
    have HFR := Lib.hid h3.2
    clear h3
    by_cases hne : x.f1.toList = (othF x).f1.toList
    · have u : (x.f1.toList == [111, 116, 104, 101, 114]) = true := by rw [hne, show (othF x).f1.toList = [111, 116, 104, 101, 114] from othT]; rfl
      clear hne
      obtain ⟨p0, p1, p2, p3, p4⟩ := fm_cells Kx.out
      go_wp2_with fail
      clear p0 p1 p2 p3 p4
      go_ret
      exact ⟨rfl, by repeat (first | exact BW.out | refine below_alloc ?_ _)⟩
    · have u : (x.f1.toList == [111, 116, 104, 101, 114]) = false := by
        rw [beq_eq_false_iff_ne]; exact fun h => hne (h.trans othT.symm)
      have HF2 := Lib.hid (HFR.out hne)
      clear hne
      obtain ⟨p0, p1, p2, p3, p4⟩ := fm_cells Kx.out
      go_wp2_with fail
      clear p0 p1 p2 p3 p4
      refine (implFd HF2.out HSR.out (by omega) _ _ _ _ _ _ _ Lr.out hrc_.out Ix.out).mono ?_
      rintro e w5 ⟨rfl, b⟩
      replace Kx := Lib.hid (blk_below Kx.out b)
      replace Ix := Lib.hid (Ix.out.below b)
      replace Ll := Lib.hid (Kd.C_below Ll.out b)
      replace Lr := Lib.hid (Kd.C_below Lr.out b)
      replace BW := Lib.hid (below_step BW.out b)
      clear b
      go_wp2_with fail
      go_ret
      exact ⟨rfl, by repeat (first | exact BW.out | refine below_alloc ?_ _)⟩
end Go.Proofs.Ytcbomlmlindjdaa
end
section
namespace Go.Proofs.Ytcbomlmlindjdaa.fnFindOther
open Go.ChangeShapes Go.WideShapes Go.ChangeAt Go.RowKit Go.Proofs.Ytcbomlmlindjdaa
open Go.ChangeMaps (open_string shut_string)
set_option linter.unusedVariables false
theorem own : ownKnob Try.prog.godebug = none := by kernel_rfl
theorem laidOut : laidOutB Try.prog = true := by kernel_rfl
def IsRow (k : IntKind) (w : World) (a : Option Addr) (len cap : Nat) (zs : List Int) : Prop :=
  (a = none ∧ len = 0 ∧ cap = 0 ∧ zs = []) ∨
  ∃ x, a = some x ∧ len ≤ cap ∧ cap ≤ maxLen ∧ zs.length = cap ∧ (∀ i, i < zs.length → w.cell? (x.add i) = some (.int k (zs.getD i 0))) ∧ ∀ n ∈ zs, (Lit.int k n).wf = true
set_option maxRecDepth 100000 in
theorem lifted (os : Os) (started : os.Started) (H : Type) (enc : TypeId × Value → H) :
    ReturnsInHanded {} Try.checked os 10 .any (Rows.fnFindOtherSpec.pre6 enc Try.prog Try.f10 Rows.fnFindOtherRow.domain false) (Rows.fnFindOtherSpec.post enc Try.prog Try.f10 false true false false) := by
  refine returnsInHanded_of_change_sized (C := Try.checked) own started (by kernel_rfl) Try.func10
    (ChangeSpec.witness6 (enc := enc) (C := Try.checked) false ⟨#[], #[.slice none 0 0], []⟩ 8 (by kernel_rfl) (by kernel_rfl) (by kernel_rfl) (by kernel_rfl)) ?_
  intro W base args ds gs before hval0 hW hcnd hsz0 _
  have hsz : (DataW.weightsEach Try.prog (Try.f10.params.toList ++ Rows.fnFindOtherSpec.plain.varTypes Try.prog) (ds ++ gs)).all (· ≤ reachBytes) = true := hsz0
  have hval : ∀ (j : Nat) t v, Try.f10.params[j]? = some t → args[j]? = some v → Value.okWide Try.prog W .any base t v := hval0
  have hW' := hW
  obtain ⟨p, q, hA0, hV, rfl, hfz, hnd⟩ := hW
  have hA : DataW.TrodAll enc Try.prog W 0 (fun _ => true) true Try.f10.params.toList args.toList ds p := hA0
  rw [Try.params10] at hA hval hsz
  obtain ⟨v0, vs0, d0, ds0, p0, q0, hargs, rfl, rfl, h0, r0⟩ := trodAll_cons hA
  obtain ⟨rfl, rfl, rfl⟩ := trodAll_nil r0
  obtain rfl : args = #[v0] := by cases args; simp_all
  obtain ⟨rfl, rfl⟩ := trodVars_none hV
  obtain ⟨a0, len0, cap0, rfl⟩ := okWide_slice Try.underlying22 (hval 0 22 v0 rfl rfl)
  have k0 := h0
  have lt0 : ∀ x ∈ p0, x.block < W.heap.size := by obtain ⟨m, hm⟩ := k0; exact DataW.trod_lt m _ _ _ hm
  obtain ⟨z0, w0⟩ : ∃ zs, IsRow .u8 W a0 len0 cap0 zs := by
    obtain ⟨fuel, hf⟩ := h0
    rcases open_ints Try.underlying22 Try.underlying5 (by kernel_rfl) hf with ⟨hcs, _⟩ | ⟨x, l, c, zs, hcs, _, hl, hm, hz, _, hcell, hwz⟩
    · simp [Value.cells] at hcs
      obtain ⟨rfl, rfl, rfl⟩ := hcs
      exact ⟨[], .inl ⟨rfl, rfl, rfl, rfl⟩⟩
    · simp [Value.cells] at hcs
      obtain ⟨rfl, rfl, rfl⟩ := hcs
      exact ⟨zs, .inr ⟨_, rfl, hl, hm, by simpa using hz, hcell, hwz⟩⟩
  have y0 : len0 * 1 ≤ 140737488351232 := Go.Proofs.YtcbomlmlindjdaaW.PrintWords.sized_ints hsz (j := 0) (t := 22) rfl rfl Try.underlying22 Try.underlying5 (by kernel_rfl) (by kernel_rfl) h0
  obtain ⟨l0, rfl, hr0, hm0, hw0, hc0⟩ := Go.Proofs.YtcbomlmlindjdaaW.PrintWords.ReadsInt.ofRowC w0
  clear hA0 hval0 hsz0 hsz
  refine (fnFindOther_walk _ _ l0 W (Go.Proofs.YtcbomlmlindjdaaW.PrintWords.Kd.C_of_reads (d := (0 : Int)) (h1 := fun _ => rfl) hr0) hc0 y0 hw0).mono fun e W' ⟨he, bel⟩ => ?_
  subst he
  exact ⟨_, rfl, _, _, _, [], _, [], hW', trodAll_mk1 (shut_bool Try.underlying4 _), (trodAll_cons_mk (Below.trod laidOut (by kernel_rfl) (of_decide_eq_true (by kernel_rfl)) k0 bel lt0) trodAll_mk0), rfl, bel.frame _, fun h => by cases h⟩
set_option maxRecDepth 100000 in
theorem closed : joinedFacts Try.prog 10 Try.f10 Rows.fnFindOtherSpec Rows.fnFindOtherRow = true := by
  unfold joinedFacts
  refine Bool.and_eq_true_iff.2 ⟨Bool.and_eq_true_iff.2 ⟨Bool.and_eq_true_iff.2 ⟨Bool.and_eq_true_iff.2 ⟨Bool.and_eq_true_iff.2 ⟨Bool.and_eq_true_iff.2 ⟨Bool.and_eq_true_iff.2 ⟨?_, mayEnter_yes⟩, (congrArg (fun b => Rows.fnFindOtherRow.lifted == b) liftsFinal_no).trans (by kernel_rfl)⟩, (congrArg (fun b => b == some Rows.fnFindOtherRow.make) make_cut).trans (by kernel_rfl)⟩, ?_⟩, ?_⟩, ?_⟩, ?_⟩
  all_goals kernel_rfl
theorem over : Rows.fnFindOtherRow.holds Try.pinned (OpenSpec.ofChange Rows.fnFindOtherSpec) :=
  OpenClaim.holds_of_wide 10 Try.f10 rfl rfl rfl rfl rfl rfl rfl ⟨rfl, rfl, rfl, rfl, rfl⟩ rfl rfl rfl rfl rfl (by kernel_rfl) Try.func10 closed
    (of_decide_eq_true (by kernel_rfl)) (by unfold Func.isWrapper; first | (rw [if_pos (by decide +kernel)]; kernel_rfl) | (rw [if_neg (by decide +kernel)]; exact ⟨rfl, rfl⟩))
    (fun os started H enc _ => lifted os started H enc)
end Go.Proofs.Ytcbomlmlindjdaa.fnFindOther
namespace Go.Proofs.Ytcbomlmlindjdaa
/-- The row. -/
theorem fnFindOther_holds : Rows.FnFindOtherSaid := fnFindOther.over
#print axioms fnFindOther_holds
end Go.Proofs.Ytcbomlmlindjdaa
end
