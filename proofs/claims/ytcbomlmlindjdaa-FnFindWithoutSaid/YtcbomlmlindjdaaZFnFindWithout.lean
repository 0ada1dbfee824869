/- Without the binding of a name, it has no closer one. For every input the law FnFindWithout returns true, and leaves its input alone. No condition. -/
import Derived.Below
import Derived.ChangeOld
import Derived.JoinedOf
import Derived.KernelRfl
import Derived.OpenShut
import Derived.ProofKit
import Derived.RowKit3
import Derived.ShutString
import Derived.SizedLaws
import Derived.Test.YtcbomlmlindjdaaRows
import Derived.WalkKit
import Derived.Test.YtcbomlmlindjdaaKa1
import Derived.Test.YtcbomlmlindjdaaKa5
import Derived.Test.YtcbomlmlindjdaaKa6
section
namespace Go.Proofs.Ytcbomlmlindjdaa
open Go.RowKit Go.Proofs.YtcbomlmlindjdaaW.PrintWords Go.Proofs.YtcbomlmlindjdaaW.PrintLast Go.Proofs.YtcbomlmlindjdaaW.PrintMore
set_option linter.unusedVariables false
set_option linter.unusedSimpArgs false
set_option maxHeartbeats 4000000 in
set_option maxRecDepth 100000 in
theorem fnFindWithout_walk (A0 : Option Addr) (c0 : Nat) (l0 : List Int) (w : World)
    (hr0 : (Kd.int .u8).C w A0 l0.length l0) (hc0 : l0.length ≤ c0) (y0 : l0.length * 1 ≤ 140737488351232) (hw0 : ∀ n ∈ l0, (Lit.int .u8 n).wf = true) :
    Calls Try.prog 11 #[.slice A0 l0.length c0] w fun e w' => e = .returned (.bool true) ∧ Below w.heap.size w w' := by
  by_cases g0 : l0.length ≤ 1048576
  rotate_left
  · have t0 : decide ((l0.length : Int) > 1048576) = true := decide_eq_true (by omega)
    have t0' : decide (1048576 < l0.length) = true := decide_eq_true (by omega)
    go_enter Try.func11, Try.ntmps11
    go_wp2_with fail
    go_ret
    exact ⟨rfl, Below.refl _ _⟩
  obtain ⟨bl, x, hbl, hx, D0⟩ := dDrawFindName l0 (fun z hz => byteOk (hw0 z hz))
  replace D0 := Lib.hid D0
  have hsm := hbl.B (by omega)
  have hbl1 := hbl.1
  have HSM := Lib.hid hsm
  rcases h1 : findR bl x with ⟨a, c⟩
  have H1 := Lib.hid h1
  have n1 : (a != a) = false := by simp
  have n2 : (c != c) = false := by simp
  have n3 : (a == a) = true := by simp
  have n4 : (c == c) = true := by simp
  clear h1 hsm hbl
  obtain ⟨q, hq⟩ : ∃ q, hiddenR bl x = q := ⟨_, rfl⟩
  obtain ⟨f, hf⟩ : ∃ f, fittingR bl x = f := ⟨_, rfl⟩
  have HQ := Lib.hid hq
  have HF := Lib.hid hf
  clear hq hf
  have t0 : decide ((l0.length : Int) > 1048576) = false := decide_eq_false (by omega)
  have t0' : decide (1048576 < l0.length) = false := decide_eq_false (by omega)
  go_enter Try.func11, Try.ntmps11
  go_wp2_with fail
  refine (D0.out A0 c0 _ hr0 hc0).mono ?_
  rintro e w1 ⟨lA, lc, X_3, X_c3, X_4, X_c4, rfl, hcl, hCl, i, b⟩
  have I := Lib.hid i
  clear i
  have Ll := Lib.hid hCl
  have hlc_ := Lib.hid hcl
  clear hCl hcl
  have BW := Lib.hid b
  clear b
  have Ix := Lib.hid I.out
  clear I
  go_wp2_with fail
  refine (implFd H1.out HSM.out (by omega) _ _ _ _ _ _ _ (Kd.C_below Ll.out (below_new _ _)) hlc_.out (Ix.out.below (below_new _ _))).mono ?_
  rintro e w2 ⟨rfl, b⟩
  obtain ⟨k, b⟩ := one_new b
  replace Ix := Lib.hid (Ix.out.below b)
  replace Ll := Lib.hid (Kd.C_below Ll.out b)
  replace BW := Lib.hid (below_step BW.out b)
  have Kx := Lib.hid k
  clear k
  clear b
  obtain ⟨p0, p1, p2, p3, p4⟩ := fm_cells Kx.out
  go_wp2_with fail
  clear p0 p1 p2 p3 p4
  refine (specFd H1.out HSM.out (by omega) _ _ _ _ _ _ _ Ll.out hlc_.out Ix.out).mono ?_
  rintro e w3 ⟨rfl, b⟩
  replace Kx := Lib.hid (blk_below Kx.out b)
  replace Ix := Lib.hid (Ix.out.below b)
  replace Ll := Lib.hid (Kd.C_below Ll.out b)
  replace BW := Lib.hid (below_step BW.out b)
  clear b
  by_cases hc1 : c = 1
  · subst hc1
    obtain ⟨m, hm, e1, e2, e3, e4, e5, e6, _⟩ := hidden_1 (l := bl) (x := x) (by rw [H1.out])
    have e7 := hidden_len (l := bl) (x := x) (by rw [H1.out])
    rw [HF.out] at e1 e7
    rw [HQ.out] at e2 e7
    obtain ⟨w1_, w2_, w3_⟩ := find_without hm e5 e6 e3
    rw [← e1] at e2 e3 w3_
    obtain ⟨f2, hf2⟩ : ∃ f2, fittingR (bl.eraseIdx m) x = f2 := ⟨_, rfl⟩
    rw [hf2] at w3_
    have HIN := Lib.hid (show (∀ i : Nat, i ≠ m → decide ((i : Int) ∈ f) = true → decide ((i : Int) ∈ q) = true) ∧ decide ((m : Int) ∈ f) = true ∧ decide ((m : Int) ∈ q) = false from by
      refine ⟨fun i hne hi => ?_, decide_eq_true e3, decide_eq_false (fun h => ?_)⟩
      · rw [e2]
        exact decide_eq_true (List.mem_filter.2 ⟨of_decide_eq_true hi, by simp; omega⟩)
      · rw [e2] at h
        have := (List.mem_filter.1 h).2
        simp at this)
    have HLE := Lib.hid w1_
    have HOK := Lib.hid (pB_iff.2 w2_)
    have HSE := Lib.hid (show SmB (bl.eraseIdx m) from ⟨by have := HSM.out.1; omega, fun b hb => HSM.out.2 b (List.mem_of_mem_eraseIdx hb)⟩)
    have HF2 := Lib.hid hf2
    have HFL := Lib.hid (show f2.length = q.length from by have := e7.1; omega)
    clear e1 e2 e3 e4 e5 e6 e7 w1_ w2_ w3_ hf2
    obtain ⟨p0, p1, p2, p3, p4⟩ := fm_cells Kx.out
    go_wp2_with fail
    clear p0 p1 p2 p3 p4
    refine (implFt HF.out HSM.out (by omega) _ _ _ _ _ _ _ Ll.out hlc_.out Ix.out).mono ?_
    rintro e w4 ⟨fA, fc, rfl, hcf, hCf, b⟩
    have Lf := Lib.hid hCf
    have hfc_ := Lib.hid hcf
    clear hCf hcf
    replace Kx := Lib.hid (blk_below Kx.out b)
    replace Ix := Lib.hid (Ix.out.below b)
    replace Ll := Lib.hid (Kd.C_below Ll.out b)
    replace BW := Lib.hid (below_step BW.out b)
    clear b
    obtain ⟨p0, p1, p2, p3, p4⟩ := fm_cells Kx.out
    go_wp2_with fail
    clear p0 p1 p2 p3 p4
    refine (implHd HQ.out HSM.out (by omega) _ _ _ _ _ _ _ Ll.out hlc_.out Ix.out).mono ?_
    rintro e w5 ⟨qA, qc, rfl, hcq, hCq, b⟩
    have Lq := Lib.hid hCq
    have hqc_ := Lib.hid hcq
    clear hCq hcq
    replace Kx := Lib.hid (blk_below Kx.out b)
    replace Ix := Lib.hid (Ix.out.below b)
    replace Ll := Lib.hid (Kd.C_below Ll.out b)
    replace Lf := Lib.hid (Kd.C_below Lf.out b)
    replace BW := Lib.hid (below_step BW.out b)
    clear b
    have Ll0 := Lib.hid Ll.out
    go_wp2_with fail
    go_loopg [11, 12] bl.length (fun kq v11 v12 w' => ∃ (i n : Nat) (rA : Option Addr) (rc : Nat), i ≤ bl.length ∧ bl.length - i ≤ kq ∧ v11 = .slice rA n rc ∧ v12 = .int .i64 i ∧ Aside0 (n = ((bl.take i).eraseIdx m).length) ∧ Aside0 (RowB w5 w' ((bl.take i).eraseIdx m) (.slice rA n rc)))
    case atStart =>
      refine ⟨0, 0, some ⟨w5.heap.size, 0, none⟩, 0, Nat.zero_le _, by omega, rfl, rfl, ⟨by simp⟩, ⟨?_⟩⟩
      rw [List.take_zero, List.eraseIdx_nil]
      exact RowB.nil (below_new _ _) (blk_new _ _) (Nat.le_refl _)
    case round =>
      obtain ⟨i, n, rA, rc, hi, hg, rfl, rfl, HN, HR⟩ := hrel
      replace Kx := Lib.hid (blk_below Kx.out HR.out.b)
      replace Ix := Lib.hid (Ix.out.below HR.out.b)
      replace Ll := Lib.hid (Kd.C_below Ll.out HR.out.b)
      replace Lf := Lib.hid (Kd.C_below Lf.out HR.out.b)
      replace Lq := Lib.hid (Kd.C_below Lq.out HR.out.b)
      replace BW := Lib.hid (below_step BW.out HR.out.b)
      replace HR := Lib.hid HR.out
      replace HN := Lib.hid HN.out
      by_cases hlt : i < bl.length
      · go_wp2_with fail
        by_cases hne : i = m
        · subst hne
          refine (mxInV HIN.out.2.1 _ _ _ Lf.out hfc_.out).mono ?_
          rintro e w6 ⟨rfl, b⟩
          replace Kx := Lib.hid (blk_below Kx.out b)
          replace Ix := Lib.hid (Ix.out.below b)
          replace Ll := Lib.hid (Kd.C_below Ll.out b)
          replace Lf := Lib.hid (Kd.C_below Lf.out b)
          replace Lq := Lib.hid (Kd.C_below Lq.out b)
          replace HR := Lib.hid (HR.out.later b)
          replace BW := Lib.hid (below_step BW.out b)
          clear b
          go_wp2_with fail
          refine (mxInV HIN.out.2.2 _ _ _ Lq.out hqc_.out).mono ?_
          rintro e w7 ⟨rfl, b⟩
          replace Kx := Lib.hid (blk_below Kx.out b)
          replace Ix := Lib.hid (Ix.out.below b)
          replace Ll := Lib.hid (Kd.C_below Ll.out b)
          replace Lf := Lib.hid (Kd.C_below Lf.out b)
          replace Lq := Lib.hid (Kd.C_below Lq.out b)
          replace HR := Lib.hid (HR.out.later b)
          replace BW := Lib.hid (below_step BW.out b)
          clear b
          have hen := erase_next (m := i) hlt
          rw [if_pos rfl] at hen
          have HEN := Lib.hid hen
          clear hen
          go_wp2_with fail
          go_roundg (bl.length - (i + 1))
          case measure => omega
          case rel => exact ⟨i + 1, n, rA, rc, by omega, Nat.le_refl _, rfl, by go_num, ⟨by rw [HEN.out]; exact HN.out⟩, ⟨by rw [HEN.out]; exact HR.out⟩⟩
        · rcases hfi : decide ((i : Int) ∈ f) with _ | _
          · refine (mxInV hfi _ _ _ Lf.out hfc_.out).mono ?_
            rintro e w6 ⟨rfl, b⟩
            replace Kx := Lib.hid (blk_below Kx.out b)
            replace Ix := Lib.hid (Ix.out.below b)
            replace Ll := Lib.hid (Kd.C_below Ll.out b)
            replace Lf := Lib.hid (Kd.C_below Lf.out b)
            replace Lq := Lib.hid (Kd.C_below Lq.out b)
            replace HR := Lib.hid (HR.out.later b)
            replace BW := Lib.hid (below_step BW.out b)
            clear b
            obtain ⟨ad2, M1, mc, e3, z0, z1, z2, hk⟩ := bd_at Ll0.out i hlt
            rw [e3] at Ll
            have hb9 := HR.out.b
            have y0 := ck0 hb9 z0
            have y1 := ck0 hb9 z1
            have y2 := ck0 hb9 z2
            subst e3
            obtain ⟨inner, ho, hrp⟩ := HR.out.own
            rw [← HN.out] at ho
            have HO := Lib.hid ho
            have HRP := Lib.hid hrp
            have HKK := Lib.hid hk
            have HB := Lib.hid hb9
            have hnb : n ≤ bl.length := by rw [HN.out]; exact Nat.le_trans (List.eraseIdx_sublist _ _).length_le (by simp; omega)
            have k1 : (0 : Int) ≤ (i : Int) := by omega
            have k2 : (i : Int) < (bl.length : Int) := by omega
            clear z0 z1 z2 ho hrp hk hb9 HR
            go_wp2_with (first | ((with_reducible refine gate_dst (N := 81) rfl ?_); refine print_append_cells (w0 := w5) w5.heap.size rfl (.tmp 75) (.tmp 80) 23 36 (.agg #[(.string ⟨#[]⟩), (.slice none 0 0), (.int .i64 0)]) 3 48 rfl Try.underlying23 infoBdV rfl (by decide) (by omega) (.slice rA n rc) (n) inner [.string bl[i].f0, .slice M1 bl[i].f1.length mc, .int .i64 bl[i].f2] rfl rfl rfl (by simp [Value.oneCell']) HO.out HB.out HB.out.size (by omega) ?_; intro v8 w8 ho8 hb8 hg8 hat8))
            have hrs := RowB.snoc HRP.out HKK.out (by rw [← HN.out]; exact ho8) hb8
            have hen := erase_next (m := m) hlt
            rw [if_neg hne] at hen
            rw [← hen] at hrs
            have HRS := Lib.hid hrs
            have HN2 := Lib.hid (show n + 1 = ((bl.take (i + 1)).eraseIdx m).length from by rw [hen, List.length_append, ← HN.out]; rfl)
            obtain ⟨A8, c8, rfl⟩ : ∃ A c, v8 = .slice A (n + 1) c := by
              rcases ho8 with ⟨_, ⟨rfl, h0⟩ | ⟨g5, cap, cur, rfl, _⟩⟩
              · exact absurd h0 (by omega)
              · exact ⟨_, _, rfl⟩
            clear ho8 hb8 hg8 hat8 hrs hen y0 y1 y2
            try go_wp2_with fail
            go_roundg (bl.length - (i + 1))
            case measure => omega
            case rel => exact ⟨i + 1, n + 1, A8, c8, by omega, Nat.le_refl _, rfl, by go_num, ⟨HN2.out⟩, ⟨HRS.out⟩⟩
          · refine (mxInV hfi _ _ _ Lf.out hfc_.out).mono ?_
            rintro e w6 ⟨rfl, b⟩
            replace Kx := Lib.hid (blk_below Kx.out b)
            replace Ix := Lib.hid (Ix.out.below b)
            replace Ll := Lib.hid (Kd.C_below Ll.out b)
            replace Lf := Lib.hid (Kd.C_below Lf.out b)
            replace Lq := Lib.hid (Kd.C_below Lq.out b)
            replace HR := Lib.hid (HR.out.later b)
            replace BW := Lib.hid (below_step BW.out b)
            clear b
            go_wp2_with fail
            refine (mxInV (HIN.out.1 i hne hfi) _ _ _ Lq.out hqc_.out).mono ?_
            rintro e w7 ⟨rfl, b⟩
            replace Kx := Lib.hid (blk_below Kx.out b)
            replace Ix := Lib.hid (Ix.out.below b)
            replace Ll := Lib.hid (Kd.C_below Ll.out b)
            replace Lf := Lib.hid (Kd.C_below Lf.out b)
            replace Lq := Lib.hid (Kd.C_below Lq.out b)
            replace HR := Lib.hid (HR.out.later b)
            replace BW := Lib.hid (below_step BW.out b)
            clear b
            skip
            obtain ⟨ad2, M1, mc, e3, z0, z1, z2, hk⟩ := bd_at Ll0.out i hlt
            rw [e3] at Ll
            have hb9 := HR.out.b
            have y0 := ck0 hb9 z0
            have y1 := ck0 hb9 z1
            have y2 := ck0 hb9 z2
            subst e3
            obtain ⟨inner, ho, hrp⟩ := HR.out.own
            rw [← HN.out] at ho
            have HO := Lib.hid ho
            have HRP := Lib.hid hrp
            have HKK := Lib.hid hk
            have HB := Lib.hid hb9
            have hnb : n ≤ bl.length := by rw [HN.out]; exact Nat.le_trans (List.eraseIdx_sublist _ _).length_le (by simp; omega)
            have k1 : (0 : Int) ≤ (i : Int) := by omega
            have k2 : (i : Int) < (bl.length : Int) := by omega
            clear z0 z1 z2 ho hrp hk hb9 HR
            go_wp2_with (first | ((with_reducible refine gate_dst (N := 81) rfl ?_); refine print_append_cells (w0 := w5) w5.heap.size rfl (.tmp 75) (.tmp 80) 23 36 (.agg #[(.string ⟨#[]⟩), (.slice none 0 0), (.int .i64 0)]) 3 48 rfl Try.underlying23 infoBdV rfl (by decide) (by omega) (.slice rA n rc) (n) inner [.string bl[i].f0, .slice M1 bl[i].f1.length mc, .int .i64 bl[i].f2] rfl rfl rfl (by simp [Value.oneCell']) HO.out HB.out HB.out.size (by omega) ?_; intro v8 w8 ho8 hb8 hg8 hat8))
            have hrs := RowB.snoc HRP.out HKK.out (by rw [← HN.out]; exact ho8) hb8
            have hen := erase_next (m := m) hlt
            rw [if_neg hne] at hen
            rw [← hen] at hrs
            have HRS := Lib.hid hrs
            have HN2 := Lib.hid (show n + 1 = ((bl.take (i + 1)).eraseIdx m).length from by rw [hen, List.length_append, ← HN.out]; rfl)
            obtain ⟨A8, c8, rfl⟩ : ∃ A c, v8 = .slice A (n + 1) c := by
              rcases ho8 with ⟨_, ⟨rfl, h0⟩ | ⟨g5, cap, cur, rfl, _⟩⟩
              · exact absurd h0 (by omega)
              · exact ⟨_, _, rfl⟩
            clear ho8 hb8 hg8 hat8 hrs hen y0 y1 y2
            try go_wp2_with fail
            go_roundg (bl.length - (i + 1))
            case measure => omega
            case rel => exact ⟨i + 1, n + 1, A8, c8, by omega, Nat.le_refl _, rfl, by go_num, ⟨HN2.out⟩, ⟨HRS.out⟩⟩
      · obtain rfl : i = bl.length := by omega
        have htk : bl.take bl.length = bl := List.take_length
        rw [htk] at HN HR
        obtain ⟨B8, d8, e8, h8, hC8⟩ := HR.out.C
        have hnn := HN.out
        rw [← hnn] at e8 h8 hC8
        obtain ⟨rfl, rfl⟩ : rA = B8 ∧ rc = d8 := by injection e8 with a1 _ a2; exact ⟨a1, a2⟩
        have Lr := Lib.hid hC8
        have hrc_ := Lib.hid h8
        have hn1 : n = bl.length - 1 := hnn.trans HLE.out
        have hbl9 : 1 ≤ bl.length := by omega
        have u9 : ((n : Int) == (bl.length : Int) - 1) = true := by rw [beq_iff_eq]; omega
        have HNN := Lib.hid hnn.symm
        have u8 : ((f2.length : Int) == (q.length : Int)) = true := by rw [HFL.out]; simp
        have u7 : (f2.length == q.length) = true := by rw [HFL.out]; simp
        have HFL2 := Lib.hid HFL.out
        clear e8 h8 hC8 hnn hn1 HR htk
        go_wp2_with fail
        refine (implBdV' HOK.out HSE.out HNN.out _ _ _ Lr.out hrc_.out).mono ?_
        rintro e w6 ⟨rfl, b⟩
        replace Kx := Lib.hid (blk_below Kx.out b)
        replace Ix := Lib.hid (Ix.out.below b)
        replace Ll := Lib.hid (Kd.C_below Ll.out b)
        replace Lf := Lib.hid (Kd.C_below Lf.out b)
        replace Lq := Lib.hid (Kd.C_below Lq.out b)
        replace Lr := Lib.hid (Kd.C_below Lr.out b)
        replace BW := Lib.hid (below_step BW.out b)
        clear b
        obtain ⟨p0, p1, p2, p3, p4⟩ := fm_cells Kx.out
        go_wp2_with fail
        clear p0 p1 p2 p3 p4
        refine (implFtR HF2.out HSE.out (by omega) HNN.out _ _ _ _ _ _ _ Lr.out hrc_.out Ix.out).mono ?_
        rintro e w7 ⟨uA, uc, rfl, hcu, hCu, b⟩
        have Lu := Lib.hid hCu
        have huc_ := Lib.hid hcu
        clear hCu hcu
        replace Kx := Lib.hid (blk_below Kx.out b)
        replace Ix := Lib.hid (Ix.out.below b)
        replace Ll := Lib.hid (Kd.C_below Ll.out b)
        replace Lf := Lib.hid (Kd.C_below Lf.out b)
        replace Lq := Lib.hid (Kd.C_below Lq.out b)
        replace Lr := Lib.hid (Kd.C_below Lr.out b)
        replace BW := Lib.hid (below_step BW.out b)
        clear b
        go_wp2_with fail
        go_ret
        exact ⟨rfl, by repeat (first | exact BW.out | refine below_alloc ?_ _)⟩
  · have u1 : (c != 1) = true := by simpa using hc1
    clear hc1
    go_wp2_with fail
    go_ret
    exact ⟨rfl, by repeat (first | exact BW.out | refine below_alloc ?_ _)⟩
end Go.Proofs.Ytcbomlmlindjdaa
end
section
namespace Go.Proofs.Ytcbomlmlindjdaa.fnFindWithout
open Go.ChangeShapes Go.WideShapes Go.ChangeAt Go.RowKit Go.Proofs.Ytcbomlmlindjdaa
open Go.ChangeMaps (open_string shut_string)
set_option linter.unusedVariables false
theorem own : ownKnob Try.prog.godebug = none := by kernel_rfl
theorem laidOut : laidOutB Try.prog = true := by kernel_rfl
def IsRow (k : IntKind) (w : World) (a : Option Addr) (len cap : Nat) (zs : List Int) : Prop :=
  (a = none ∧ len = 0 ∧ cap = 0 ∧ zs = []) ∨
  ∃ x, a = some x ∧ len ≤ cap ∧ cap ≤ maxLen ∧ zs.length = cap ∧ (∀ i, i < zs.length → w.cell? (x.add i) = some (.int k (zs.getD i 0))) ∧ ∀ n ∈ zs, (Lit.int k n).wf = true
set_option maxRecDepth 100000 in
theorem lifted (os : Os) (started : os.Started) (H : Type) (enc : TypeId × Value → H) :
    ReturnsInHanded {} Try.checked os 11 .any (Rows.fnFindWithoutSpec.pre6 enc Try.prog Try.f11 Rows.fnFindWithoutRow.domain false) (Rows.fnFindWithoutSpec.post enc Try.prog Try.f11 false true false false) := by
  refine returnsInHanded_of_change_sized (C := Try.checked) own started (by kernel_rfl) Try.func11
    (ChangeSpec.witness6 (enc := enc) (C := Try.checked) false ⟨#[], #[.slice none 0 0], []⟩ 8 (by kernel_rfl) (by kernel_rfl) (by kernel_rfl) (by kernel_rfl)) ?_
  intro W base args ds gs before hval0 hW hcnd hsz0 _
  have hsz : (DataW.weightsEach Try.prog (Try.f11.params.toList ++ Rows.fnFindWithoutSpec.plain.varTypes Try.prog) (ds ++ gs)).all (· ≤ reachBytes) = true := hsz0
  have hval : ∀ (j : Nat) t v, Try.f11.params[j]? = some t → args[j]? = some v → Value.okWide Try.prog W .any base t v := hval0
  have hW' := hW
  obtain ⟨p, q, hA0, hV, rfl, hfz, hnd⟩ := hW
  have hA : DataW.TrodAll enc Try.prog W 0 (fun _ => true) true Try.f11.params.toList args.toList ds p := hA0
  rw [Try.params11] at hA hval hsz
  obtain ⟨v0, vs0, d0, ds0, p0, q0, hargs, rfl, rfl, h0, r0⟩ := trodAll_cons hA
  obtain ⟨rfl, rfl, rfl⟩ := trodAll_nil r0
  obtain rfl : args = #[v0] := by cases args; simp_all
  obtain ⟨rfl, rfl⟩ := trodVars_none hV
  obtain ⟨a0, len0, cap0, rfl⟩ := okWide_slice Try.underlying22 (hval 0 22 v0 rfl rfl)
  have k0 := h0
  have lt0 : ∀ x ∈ p0, x.block < W.heap.size := by obtain ⟨m, hm⟩ := k0; exact DataW.trod_lt m _ _ _ hm
  obtain ⟨z0, w0⟩ : ∃ zs, IsRow .u8 W a0 len0 cap0 zs := by
    obtain ⟨fuel, hf⟩ := h0
    rcases open_ints Try.underlying22 Try.underlying5 (by kernel_rfl) hf with ⟨hcs, _⟩ | ⟨x, l, c, zs, hcs, _, hl, hm, hz, _, hcell, hwz⟩
    · simp [Value.cells] at hcs
      obtain ⟨rfl, rfl, rfl⟩ := hcs
      exact ⟨[], .inl ⟨rfl, rfl, rfl, rfl⟩⟩
    · simp [Value.cells] at hcs
      obtain ⟨rfl, rfl, rfl⟩ := hcs
      exact ⟨zs, .inr ⟨_, rfl, hl, hm, by simpa using hz, hcell, hwz⟩⟩
  have y0 : len0 * 1 ≤ 140737488351232 := Go.Proofs.YtcbomlmlindjdaaW.PrintWords.sized_ints hsz (j := 0) (t := 22) rfl rfl Try.underlying22 Try.underlying5 (by kernel_rfl) (by kernel_rfl) h0
  obtain ⟨l0, rfl, hr0, hm0, hw0, hc0⟩ := Go.Proofs.YtcbomlmlindjdaaW.PrintWords.ReadsInt.ofRowC w0
  clear hA0 hval0 hsz0 hsz
  refine (fnFindWithout_walk _ _ l0 W (Go.Proofs.YtcbomlmlindjdaaW.PrintWords.Kd.C_of_reads (d := (0 : Int)) (h1 := fun _ => rfl) hr0) hc0 y0 hw0).mono fun e W' ⟨he, bel⟩ => ?_
  subst he
  exact ⟨_, rfl, _, _, _, [], _, [], hW', trodAll_mk1 (shut_bool Try.underlying4 _), (trodAll_cons_mk (Below.trod laidOut (by kernel_rfl) (of_decide_eq_true (by kernel_rfl)) k0 bel lt0) trodAll_mk0), rfl, bel.frame _, fun h => by cases h⟩
set_option maxRecDepth 100000 in
theorem closed : joinedFacts Try.prog 11 Try.f11 Rows.fnFindWithoutSpec Rows.fnFindWithoutRow = true := by
  unfold joinedFacts
  refine Bool.and_eq_true_iff.2 ⟨Bool.and_eq_true_iff.2 ⟨Bool.and_eq_true_iff.2 ⟨Bool.and_eq_true_iff.2 ⟨Bool.and_eq_true_iff.2 ⟨Bool.and_eq_true_iff.2 ⟨Bool.and_eq_true_iff.2 ⟨?_, mayEnter_yes⟩, (congrArg (fun b => Rows.fnFindWithoutRow.lifted == b) liftsFinal_no).trans (by kernel_rfl)⟩, (congrArg (fun b => b == some Rows.fnFindWithoutRow.make) make_cut).trans (by kernel_rfl)⟩, ?_⟩, ?_⟩, ?_⟩, ?_⟩
  all_goals kernel_rfl
theorem over : Rows.fnFindWithoutRow.holds Try.pinned (OpenSpec.ofChange Rows.fnFindWithoutSpec) :=
  OpenClaim.holds_of_wide 11 Try.f11 rfl rfl rfl rfl rfl rfl rfl ⟨rfl, rfl, rfl, rfl, rfl⟩ rfl rfl rfl rfl rfl (by kernel_rfl) Try.func11 closed
    (of_decide_eq_true (by kernel_rfl)) (by unfold Func.isWrapper; first | (rw [if_pos (by decide +kernel)]; kernel_rfl) | (rw [if_neg (by decide +kernel)]; exact ⟨rfl, rfl⟩))
    (fun os started H enc _ => lifted os started H enc)
end Go.Proofs.Ytcbomlmlindjdaa.fnFindWithout
namespace Go.Proofs.Ytcbomlmlindjdaa
/-- The row. -/
theorem fnFindWithout_holds : Rows.FnFindWithoutSaid := fnFindWithout.over
#print axioms fnFindWithout_holds
end Go.Proofs.Ytcbomlmlindjdaa
end
