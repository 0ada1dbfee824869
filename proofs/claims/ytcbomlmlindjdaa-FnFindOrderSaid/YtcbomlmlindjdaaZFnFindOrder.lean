/- The order of bindings does not matter. For every input the law FnFindOrder returns true, and leaves its input alone. No condition. -/
import Derived.Below
import Derived.ChangeOld
import Derived.JoinedOf
import Derived.KernelRfl
import Derived.OpenShut
import Derived.ProofKit
import Derived.RowKit3
import Derived.ShutString
import Derived.SizedLaws
import Derived.Test.YtcbomlmlindjdaaRows
import Derived.WalkKit
import Derived.Test.YtcbomlmlindjdaaKa1
import Derived.Test.YtcbomlmlindjdaaKa5
import Derived.Test.YtcbomlmlindjdaaKa6
section
namespace Go.Proofs.Ytcbomlmlindjdaa
open Go.RowKit Go.Proofs.YtcbomlmlindjdaaW.PrintWords Go.Proofs.YtcbomlmlindjdaaW.PrintLast Go.Proofs.YtcbomlmlindjdaaW.PrintMore
set_option linter.unusedVariables false
set_option linter.unusedSimpArgs false
set_option maxHeartbeats 4000000 in
set_option maxRecDepth 100000 in
theorem fnFindOrder_walk (A0 : Option Addr) (c0 : Nat) (l0 : List Int) (w : World)
    (hr0 : (Kd.int .u8).C w A0 l0.length l0) (hc0 : l0.length ≤ c0) (y0 : l0.length * 1 ≤ 140737488351232) (hw0 : ∀ n ∈ l0, (Lit.int .u8 n).wf = true) :
    Calls Try.prog 4 #[.slice A0 l0.length c0] w fun e w' => e = .returned (.bool true) ∧ Below w.heap.size w w' := by
  by_cases g0 : l0.length ≤ 1048576
  rotate_left
  · have t0 : decide ((l0.length : Int) > 1048576) = true := decide_eq_true (by omega)
    have t0' : decide (1048576 < l0.length) = true := decide_eq_true (by omega)
    go_enter Try.func4, Try.ntmps4
    go_wp2_with fail
    go_ret
    exact ⟨rfl, Below.refl _ _⟩
  obtain ⟨bl, x, hbl, hx, D0⟩ := dDrawFindName l0 (fun z hz => byteOk (hw0 z hz))
  replace D0 := Lib.hid D0
  have hsm := hbl.B (by omega)
  have hbl1 := hbl.1
  have HSM := Lib.hid hsm
  rcases h1 : findR bl x with ⟨a, c⟩
  have H1 := Lib.hid h1
  have n1 : (a != a) = false := by simp
  have n2 : (c != c) = false := by simp
  have n3 : (a == a) = true := by simp
  have n4 : (c == c) = true := by simp
  clear h1 hsm hbl
  have HREV := Lib.hid ((find_reverse bl x).trans H1.out)
  have HSR := Lib.hid (show SmB bl.reverse from ⟨by have := HSM.out.1; simp; omega, fun b hb => HSM.out.2 b (by simpa using hb)⟩)
  have t0 : decide ((l0.length : Int) > 1048576) = false := decide_eq_false (by omega)
  have t0' : decide (1048576 < l0.length) = false := decide_eq_false (by omega)
  go_enter Try.func4, Try.ntmps4
  go_wp2_with fail
  refine (D0.out A0 c0 _ hr0 hc0).mono ?_
  rintro e w1 ⟨lA, lc, X_3, X_c3, X_4, X_c4, rfl, hcl, hCl, i, b⟩
  have I := Lib.hid i
  clear i
  have Ll := Lib.hid hCl
  have hlc_ := Lib.hid hcl
  clear hCl hcl
  have BW := Lib.hid b
  clear b
  have Ix := Lib.hid I.out
  clear I
  go_wp2_with fail
  refine (implFd H1.out HSM.out (by omega) _ _ _ _ _ _ _ (Kd.C_below Ll.out (below_new _ _)) hlc_.out (Ix.out.below (below_new _ _))).mono ?_
  rintro e w2 ⟨rfl, b⟩
  obtain ⟨k, b⟩ := one_new b
  replace Ix := Lib.hid (Ix.out.below b)
  replace Ll := Lib.hid (Kd.C_below Ll.out b)
  replace BW := Lib.hid (below_step BW.out b)
  have Kx := Lib.hid k
  clear k
  clear b
  obtain ⟨p0, p1, p2, p3, p4⟩ := fm_cells Kx.out
  go_wp2_with fail
  clear p0 p1 p2 p3 p4
  refine (specFd H1.out HSM.out (by omega) _ _ _ _ _ _ _ Ll.out hlc_.out Ix.out).mono ?_
  rintro e w3 ⟨rfl, b⟩
  replace Kx := Lib.hid (blk_below Kx.out b)
  replace Ix := Lib.hid (Ix.out.below b)
  replace Ll := Lib.hid (Kd.C_below Ll.out b)
  replace BW := Lib.hid (below_step BW.out b)
  clear b
  go_wp2_with fail
  have Ll0 := Lib.hid Ll.out
  go_loopg [9, 10] bl.length (fun kq v9 v10 w' => ∃ (j : Nat) (rA : Option Addr) (rc : Nat), j ≤ bl.length ∧ bl.length - j ≤ kq ∧ v9 = .slice rA j rc ∧ v10 = .int .i64 ((bl.length : Int) - 1 - (j : Int)) ∧ Aside0 (RowB w3 w' (bl.reverse.take j) (.slice rA j rc)))
  case atStart =>
    refine ⟨0, some ⟨w3.heap.size, 0, none⟩, 0, Nat.zero_le _, by omega, rfl, by simp, ⟨?_⟩⟩
    exact RowB.nil (below_new _ _) (blk_new _ _) (Nat.le_refl _)
  case round =>
    obtain ⟨j, rA, rc, hj, hg, rfl, rfl, HR⟩ := hrel
    replace Kx := Lib.hid (blk_below Kx.out HR.out.b)
    replace Ix := Lib.hid (Ix.out.below HR.out.b)
    replace Ll := Lib.hid (Kd.C_below Ll.out HR.out.b)
    replace BW := Lib.hid (below_step BW.out HR.out.b)
    replace HR := Lib.hid HR.out
    by_cases hlt : j < bl.length
    · obtain ⟨i, hi⟩ : ∃ i : Nat, i = bl.length - 1 - j := ⟨_, rfl⟩
      have hi2 : i < bl.length := by omega
      have hii : (bl.length : Int) - 1 - (j : Int) = (i : Int) := by omega
      have hid : (i : Int) - 1 = (bl.length : Int) - 1 - ((j + 1 : Nat) : Int) := by omega
      have hrv : bl.reverse.take (j + 1) = bl.reverse.take j ++ [bl[i]] := by
        rw [List.take_succ_eq_append_getElem (by simpa using hlt), List.getElem_reverse]
        congr 3
        omega
      have hrl : (bl.reverse.take j).length = j := by simp; omega
      obtain ⟨ad2, M1, mc, e3, z0, z1, z2, hk⟩ := bd_at (Kd.C_below Ll0.out (Below.refl _ _)) i hi2
      rw [e3] at Ll
      have hb9 := HR.out.b
      have y0 := ck0 hb9 z0
      have y1 := ck0 hb9 z1
      have y2 := ck0 hb9 z2
      subst e3
      obtain ⟨inner, ho, hrp⟩ := HR.out.own
      rw [hrl] at ho
      have HO := Lib.hid ho
      have HRP := Lib.hid hrp
      have HKK := Lib.hid hk
      have HB := Lib.hid hb9
      have HRV := Lib.hid hrv
      have HRL := Lib.hid hrl
      have HID := Lib.hid hid
      have k1 : (0 : Int) ≤ (i : Int) := by omega
      have k2 : (i : Int) < (bl.length : Int) := by omega
      have d1 : decide ((i : Int) ≥ 0) = true := decide_eq_true (by omega)
      rw [hii]
      clear hi hii hid hrv hrl z0 z1 z2 ho hrp hk hb9 HR
      go_wp2_with (first | ((with_reducible refine gate_dst (N := 47) rfl ?_); refine print_append_cells (w0 := w3) w3.heap.size rfl (.tmp 41) (.tmp 46) 23 36 (.agg #[(.string ⟨#[]⟩), (.slice none 0 0), (.int .i64 0)]) 3 48 rfl Try.underlying23 infoBdV rfl (by decide) (by omega) (.slice rA j rc) (j) inner [.string bl[i].f0, .slice M1 bl[i].f1.length mc, .int .i64 bl[i].f2] rfl rfl rfl (by simp [Value.oneCell']) HO.out HB.out HB.out.size (by omega) ?_; intro v8 w8 ho8 hb8 hg8 hat8))
      have hrs := RowB.snoc (l := bl.reverse.take j) HRP.out HKK.out (by rw [HRL.out]; exact ho8) hb8
      rw [← HRV.out] at hrs
      have HRS := Lib.hid hrs
      obtain ⟨A8, c8, rfl⟩ : ∃ A c, v8 = .slice A (j + 1) c := by
        rcases ho8 with ⟨_, ⟨rfl, h0⟩ | ⟨g5, cap, cur, rfl, _⟩⟩
        · exact absurd h0 (by omega)
        · exact ⟨_, _, rfl⟩
      clear ho8 hb8 hg8 hat8 hrs y0 y1 y2
      try go_wp2_with fail
      go_roundg (bl.length - (j + 1))
      case measure => omega
      case rel => exact ⟨j + 1, A8, c8, by omega, Nat.le_refl _, rfl, by rw [← HID.out]; try go_num, ⟨HRS.out⟩⟩
    · obtain rfl : j = bl.length := by omega
      obtain ⟨B8, d8, e8, h8, hC8⟩ := HR.out.C
      have hrl : (bl.reverse.take bl.length).length = bl.length := by simp
      have hrt : bl.reverse.take bl.length = bl.reverse := List.take_of_length_le (by simp)
      rw [hrl] at e8 h8 hC8
      rw [hrt] at hC8
      obtain ⟨rfl, rfl⟩ : rA = B8 ∧ rc = d8 := by injection e8 with a1 _ a2; exact ⟨a1, a2⟩
      have Lr := Lib.hid hC8
      have hrc_ := Lib.hid h8
      have d1 : decide ((bl.length : Int) - 1 - (bl.length : Int) ≥ 0) = false := decide_eq_false (by omega)
      have d2 : ((bl.length : Int) - 1 - (bl.length : Int)) = -1 := by omega
      rw [d2]
      clear e8 h8 hC8 hrl hrt HR
      obtain ⟨p0, p1, p2, p3, p4⟩ := fm_cells Kx.out
      go_wp2_with fail
      clear p0 p1 p2 p3 p4
      skip
      refine (implFdR HREV.out HSR.out (by omega) (by simp) _ _ _ _ _ _ _ Lr.out hrc_.out Ix.out).mono ?_
      rintro e w4 ⟨rfl, b⟩
      replace Kx := Lib.hid (blk_below Kx.out b)
      replace Ix := Lib.hid (Ix.out.below b)
      replace Ll := Lib.hid (Kd.C_below Ll.out b)
      replace Lr := Lib.hid (Kd.C_below Lr.out b)
      replace BW := Lib.hid (below_step BW.out b)
      clear b
      go_wp2_with fail
      go_ret
      exact ⟨rfl, by repeat (first | exact BW.out | refine below_alloc ?_ _)⟩
end Go.Proofs.Ytcbomlmlindjdaa
end
section
namespace Go.Proofs.Ytcbomlmlindjdaa.fnFindOrder
open Go.ChangeShapes Go.WideShapes Go.ChangeAt Go.RowKit Go.Proofs.Ytcbomlmlindjdaa
open Go.ChangeMaps (open_string shut_string)
set_option linter.unusedVariables false
theorem own : ownKnob Try.prog.godebug = none := by kernel_rfl
theorem laidOut : laidOutB Try.prog = true := by kernel_rfl
def IsRow (k : IntKind) (w : World) (a : Option Addr) (len cap : Nat) (zs : List Int) : Prop :=
  (a = none ∧ len = 0 ∧ cap = 0 ∧ zs = []) ∨
  ∃ x, a = some x ∧ len ≤ cap ∧ cap ≤ maxLen ∧ zs.length = cap ∧ (∀ i, i < zs.length → w.cell? (x.add i) = some (.int k (zs.getD i 0))) ∧ ∀ n ∈ zs, (Lit.int k n).wf = true
set_option maxRecDepth 100000 in
theorem lifted (os : Os) (started : os.Started) (H : Type) (enc : TypeId × Value → H) :
    ReturnsInHanded {} Try.checked os 4 .any (Rows.fnFindOrderSpec.pre6 enc Try.prog Try.f4 Rows.fnFindOrderRow.domain false) (Rows.fnFindOrderSpec.post enc Try.prog Try.f4 false true false false) := by
  refine returnsInHanded_of_change_sized (C := Try.checked) own started (by kernel_rfl) Try.func4
    (ChangeSpec.witness6 (enc := enc) (C := Try.checked) false ⟨#[], #[.slice none 0 0], []⟩ 8 (by kernel_rfl) (by kernel_rfl) (by kernel_rfl) (by kernel_rfl)) ?_
  intro W base args ds gs before hval0 hW hcnd hsz0 _
  have hsz : (DataW.weightsEach Try.prog (Try.f4.params.toList ++ Rows.fnFindOrderSpec.plain.varTypes Try.prog) (ds ++ gs)).all (· ≤ reachBytes) = true := hsz0
  have hval : ∀ (j : Nat) t v, Try.f4.params[j]? = some t → args[j]? = some v → Value.okWide Try.prog W .any base t v := hval0
  have hW' := hW
  obtain ⟨p, q, hA0, hV, rfl, hfz, hnd⟩ := hW
  have hA : DataW.TrodAll enc Try.prog W 0 (fun _ => true) true Try.f4.params.toList args.toList ds p := hA0
  rw [Try.params4] at hA hval hsz
  obtain ⟨v0, vs0, d0, ds0, p0, q0, hargs, rfl, rfl, h0, r0⟩ := trodAll_cons hA
  obtain ⟨rfl, rfl, rfl⟩ := trodAll_nil r0
  obtain rfl : args = #[v0] := by cases args; simp_all
  obtain ⟨rfl, rfl⟩ := trodVars_none hV
  obtain ⟨a0, len0, cap0, rfl⟩ := okWide_slice Try.underlying22 (hval 0 22 v0 rfl rfl)
  have k0 := h0
  have lt0 : ∀ x ∈ p0, x.block < W.heap.size := by obtain ⟨m, hm⟩ := k0; exact DataW.trod_lt m _ _ _ hm
  obtain ⟨z0, w0⟩ : ∃ zs, IsRow .u8 W a0 len0 cap0 zs := by
    obtain ⟨fuel, hf⟩ := h0
    rcases open_ints Try.underlying22 Try.underlying5 (by kernel_rfl) hf with ⟨hcs, _⟩ | ⟨x, l, c, zs, hcs, _, hl, hm, hz, _, hcell, hwz⟩
    · simp [Value.cells] at hcs
      obtain ⟨rfl, rfl, rfl⟩ := hcs
      exact ⟨[], .inl ⟨rfl, rfl, rfl, rfl⟩⟩
    · simp [Value.cells] at hcs
      obtain ⟨rfl, rfl, rfl⟩ := hcs
      exact ⟨zs, .inr ⟨_, rfl, hl, hm, by simpa using hz, hcell, hwz⟩⟩
  have y0 : len0 * 1 ≤ 140737488351232 := Go.Proofs.YtcbomlmlindjdaaW.PrintWords.sized_ints hsz (j := 0) (t := 22) rfl rfl Try.underlying22 Try.underlying5 (by kernel_rfl) (by kernel_rfl) h0
  obtain ⟨l0, rfl, hr0, hm0, hw0, hc0⟩ := Go.Proofs.YtcbomlmlindjdaaW.PrintWords.ReadsInt.ofRowC w0
  clear hA0 hval0 hsz0 hsz
  refine (fnFindOrder_walk _ _ l0 W (Go.Proofs.YtcbomlmlindjdaaW.PrintWords.Kd.C_of_reads (d := (0 : Int)) (h1 := fun _ => rfl) hr0) hc0 y0 hw0).mono fun e W' ⟨he, bel⟩ => ?_
  subst he
  exact ⟨_, rfl, _, _, _, [], _, [], hW', trodAll_mk1 (shut_bool Try.underlying4 _), (trodAll_cons_mk (Below.trod laidOut (by kernel_rfl) (of_decide_eq_true (by kernel_rfl)) k0 bel lt0) trodAll_mk0), rfl, bel.frame _, fun h => by cases h⟩
set_option maxRecDepth 100000 in
theorem closed : joinedFacts Try.prog 4 Try.f4 Rows.fnFindOrderSpec Rows.fnFindOrderRow = true := by
  unfold joinedFacts
  refine Bool.and_eq_true_iff.2 ⟨Bool.and_eq_true_iff.2 ⟨Bool.and_eq_true_iff.2 ⟨Bool.and_eq_true_iff.2 ⟨Bool.and_eq_true_iff.2 ⟨Bool.and_eq_true_iff.2 ⟨Bool.and_eq_true_iff.2 ⟨?_, mayEnter_yes⟩, (congrArg (fun b => Rows.fnFindOrderRow.lifted == b) liftsFinal_no).trans (by kernel_rfl)⟩, (congrArg (fun b => b == some Rows.fnFindOrderRow.make) make_cut).trans (by kernel_rfl)⟩, ?_⟩, ?_⟩, ?_⟩, ?_⟩
  all_goals kernel_rfl
theorem over : Rows.fnFindOrderRow.holds Try.pinned (OpenSpec.ofChange Rows.fnFindOrderSpec) :=
  OpenClaim.holds_of_wide 4 Try.f4 rfl rfl rfl rfl rfl rfl rfl ⟨rfl, rfl, rfl, rfl, rfl⟩ rfl rfl rfl rfl rfl (by kernel_rfl) Try.func4 closed
    (of_decide_eq_true (by kernel_rfl)) (by unfold Func.isWrapper; first | (rw [if_pos (by decide +kernel)]; kernel_rfl) | (rw [if_neg (by decide +kernel)]; exact ⟨rfl, rfl⟩))
    (fun os started H enc _ => lifted os started H enc)
end Go.Proofs.Ytcbomlmlindjdaa.fnFindOrder
namespace Go.Proofs.Ytcbomlmlindjdaa
/-- The row. -/
theorem fnFindOrder_holds : Rows.FnFindOrderSaid := fnFindOrder.over
#print axioms fnFindOrder_holds
end Go.Proofs.Ytcbomlmlindjdaa
end
