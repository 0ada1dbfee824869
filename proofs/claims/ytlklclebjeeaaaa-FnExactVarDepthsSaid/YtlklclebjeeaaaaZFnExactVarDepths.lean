/- The program's VarDepths returns what the reference's returns, leaves its arguments alone, and shares no memory. For every input the law FnExactVarDepths returns true, and leaves its input alone. No condition. -/
import Derived.Below
import Derived.ChangeOld
import Derived.Deep.RegionHeld3
import Derived.JoinedOf
import Derived.KernelRfl
import Derived.OpenShut
import Derived.ProofKit
import Derived.RowKit3
import Derived.ShutString
import Derived.SizedLaws
import Derived.Test.YtlklclebjeeaaaaRows
import Derived.WalkKit
import Derived.Test.YtlklclebjeeaaaaVe1
import Derived.Test.YtlklclebjeeaaaaVe4
section
namespace Go.Proofs.Ytlklclebjeeaaaa
open Go.RowKit Go.Proofs.YtlklclebjeeaaaaW.PrintWords Go.Proofs.YtlklclebjeeaaaaW.PrintLast Go.Proofs.YtlklclebjeeaaaaW.PrintMore
set_option linter.unusedVariables false
set_option linter.unusedSimpArgs false
theorem eqFormSX (ks : List Fm) (A B : Option Addr) (c d : Nat) (w : World) (hr : kF.C w A ks.length ks) (hc : ks.length ≤ c) (hr2 : kF.C w B ks.length ks) (hc2 : ks.length ≤ d) :
    Calls Try.prog 39 #[.slice A ks.length c, .slice B ks.length d] w (Ret w (.bool true)) := by
  have h := eqFormS_of ks ks (fun k _ => eqForm_any k) A B c d w hr hc hr2 hc2
  rw [eqB_self] at h
  exact h
set_option maxHeartbeats 4000000 in
set_option maxRecDepth 100000 in
theorem fnExactVarDepths_walk (x : Fm) (A3 : Option Addr) (Ac3 : Nat) (A4 : Option Addr) (Ac4 : Nat) (ls : List Fm) (LA : Option Addr) (lc : Nat) (w : World) (hin : FmIn w x A3 Ac3 A4 Ac4) (hnm : NmSmall x) (hc : ls.length ≤ lc) (hr : kF.C w LA ls.length ls) (hl : ∀ b, b ∈ ls → NmSmall b) :
    Calls Try.prog 9 #[.agg #[.int .i64 x.f0, .string x.f1, .int .i64 x.f2, .slice A3 x.f3.length Ac3, .slice A4 x.f4.length Ac4], .slice LA ls.length lc] w fun e w' => e = .returned (.bool true) ∧ Below w.heap.size w w' := by
  have hmax := hr.2.1
  have HZ := Lib.hid (fun W hb => szForm_any x A3 Ac3 A4 Ac4 1048576 W (hin.below hb) hnm (by omega) (by omega))
  have HZ2 := Lib.hid (fun W hb (hq : x.tot ≤ 1048576) => szFormS_any ls LA lc (1048576 - (x.tot : Int)) W (Kd.C_below hr hb) hc hl (by omega) (by omega))
  obtain ⟨l, hz⟩ : ∃ l, depsR x ls = l := ⟨_, rfl⟩
  have hlb := depsRLen x ls
  rw [hz] at hlb
  have HLB := Lib.hid hlb
  have HI := Lib.hid hin
  have HR := Lib.hid (fun W (hb : Below w.heap.size w W) => Kd.C_below hr hb)
  have HEZ := Lib.hid hz
  clear hin hr hl hnm hlb hz
  go_enter Try.func9, Try.ntmps9
  go_wp2_with fail
  refine (HZ.out _ (below_new _ _)).mono ?_
  rintro e w1 ⟨rfl, hb1⟩
  obtain ⟨k1, b1⟩ := one_new hb1
  have KA := Lib.hid k1
  have BW := Lib.hid b1
  clear hb1 k1 b1 HZ
  by_cases hq : x.tot ≤ 1048576
  rotate_left
  · rw [szR_no (by omega)]
    have hd : decide ((-1 : Int) < 0) = true := by simp
    go_wp2_with fail
    go_ret
    exact ⟨rfl, BW.out⟩
  rw [szR_yes (by omega)]
  have hd : decide ((1048576 : Int) - (x.tot : Int) < 0) = false := decide_eq_false (by omega)
  go_wp2_with fail
  refine (HZ2.out _ BW.out hq).mono ?_
  rintro e w2 ⟨rfl, bb⟩
  replace KA := Lib.hid (blk_below KA.out bb)
  replace BW := Lib.hid (below_step BW.out bb)
  clear bb HZ2
  by_cases hq2 : (totL ls : Int) ≤ 1048576 - (x.tot : Int)
  rotate_left
  · rw [szR_no (by omega)]
    have hd2 : decide ((-1 : Int) < 0) = true := by simp
    go_wp2_with fail
    go_ret
    exact ⟨rfl, BW.out⟩
  rw [szR_yes hq2]
  have hd2 : decide ((1048576 : Int) - (x.tot : Int) - (totL ls : Int) < 0) = false := decide_eq_false (by omega)
  have htl : totL ls ≤ 1048576 := by omega
  have hlen : ls.length ≤ 2000000 := by have := len_totL ls; omega
  have hmem : ∀ y, y ∈ ls → y.tot ≤ 1048576 := fun y hy => by have := totL_mem hy; omega
  have HQ := Lib.hid (And.intro hq htl)
  have HTF := Lib.hid (fun W hb => toFormO x A3 Ac3 A4 Ac4 W (HI.out.below hb) hq)
  have HTS := Lib.hid (fun W hb => toFormSO ls LA lc W (HR.out W hb) hc htl)
  have HSP := Lib.hid (fun B3 b3 B4 b4 C c W hx hr hc => specVarDepths_any x B3 b3 B4 b4 ls C c W hx hr hc hq hlen hmem)
  have HIM := Lib.hid (fun B3 b3 B4 b4 C c W hx hr hc => implVD_own HEZ.out B3 b3 B4 b4 C c W hx hr hc hq hmem)
  rw [HEZ.out] at HSP
  clear hmem htl hlen hq2 HEZ
  obtain ⟨p0, p1, p2, p3, p4⟩ := fm_cells KA.out
  go_wp2_with fail
  clear p0 p1 p2 p3 p4
  refine (HTF.out _ BW.out).mono ?_
  rintro e wa ⟨E3, Ec3, E4, Ec4, fe, rfl, oe, bb⟩
  have IE := Lib.hid oe.now
  replace KA := Lib.hid (blk_below KA.out bb)
  replace BW := Lib.hid (below_step BW.out bb)
  clear oe bb
  go_wp2_with fail
  refine (HTS.out _ BW.out).mono ?_
  rintro e wb ⟨PA, pc, rfl, oP, bb⟩
  have IP := Lib.hid oP.now
  replace IE := Lib.hid (IE.out.below bb)
  replace KA := Lib.hid (blk_below KA.out bb)
  replace BW := Lib.hid (below_step BW.out bb)
  clear oP bb
  go_wp2_with fail
  refine (HSP.out E3 Ec3 E4 Ec4 PA pc _ IE.out IP.out.2 IP.out.1).mono ?_
  rintro e wX ⟨UA, Uc, rfl, hul, huc, bb⟩
  have IU := Lib.hid (And.intro hul huc)
  replace KA := Lib.hid (blk_below KA.out bb)
  replace BW := Lib.hid (below_step BW.out bb)
  clear hul huc bb IE IP HSP
  obtain ⟨p0, p1, p2, p3, p4⟩ := fm_cells KA.out
  go_wp2_with fail
  clear p0 p1 p2 p3 p4
  refine (HTF.out _ BW.out).mono ?_
  rintro e w4 ⟨X3, Xc3, X4, Xc4, fx, rfl, ox, bb⟩
  have HSX := Lib.hid (show wX.heap.size ≤ w4.heap.size from bb.size)
  have OX := Lib.hid ox
  have BX := Lib.hid bb
  clear ox bb
  go_wp2_with fail
  have bn := below_new w4 (.cells #[.int .i64 x.f0, .string x.f1, .int .i64 x.f2, .slice X3 x.f3.length Xc3, .slice X4 x.f4.length Xc4] 34)
  have ky := blk_new w4 (.cells #[.int .i64 x.f0, .string x.f1, .int .i64 x.f2, .slice X3 x.f3.length Xc3, .slice X4 x.f4.length Xc4] 34)
  have hs4 : (w4.alloc (.cells #[.int .i64 x.f0, .string x.f1, .int .i64 x.f2, .slice X3 x.f3.length Xc3, .slice X4 x.f4.length Xc4] 34)).heap.size = w4.heap.size + 1 := by simp
  refine (HTS.out _ (below_step BW.out (below_step BX.out bn))).mono ?_
  rintro e w5 ⟨NA, Nc, rfl, ol, bb⟩
  rw [hs4] at ol
  have OL := Lib.hid ol
  have KX := Lib.hid (blk_below ky bb)
  have HS5 := Lib.hid (show w4.heap.size + 1 ≤ w5.heap.size from by have := bb.size; omega)
  replace bb := below_step bn bb
  replace OX := Lib.hid (OX.out.later bb)
  replace BX := Lib.hid (below_step BX.out bb)
  clear ol bb bn ky hs4
  obtain ⟨q0, q1, q2, q3, q4⟩ := fm_cells KX.out
  go_wp2_with fail
  clear q0 q1 q2 q3 q4
  refine (HIM.out X3 Xc3 X4 Xc4 NA Nc _ OX.out.now OL.out.now.2 OL.out.now.1).mono ?_
  rintro e w6 ⟨GA, Gc, rfl, og, bb⟩
  have OG := Lib.hid og
  replace KX := Lib.hid (blk_below KX.out bb)
  replace OX := Lib.hid (OX.out.later bb)
  replace OL := Lib.hid (OL.out.later bb)
  replace BX := Lib.hid (below_step BX.out bb)
  clear og bb
  go_wp2_with fail
  refine (eqIntS_any l l GA UA Gc Uc _ OG.out.now.2 OG.out.now.1 (Kd.C_below IU.out.2 BX.out) IU.out.1).mono ?_
  rintro e w7 ⟨rfl, bb⟩
  replace KX := Lib.hid (blk_below KX.out bb)
  replace OX := Lib.hid (OX.out.later bb)
  replace OL := Lib.hid (OL.out.later bb)
  replace OG := Lib.hid (OwnI.later OG.out bb)
  replace BX := Lib.hid (below_step BX.out bb)
  clear bb
  rw [decide_eq_true (show l = l from rfl)]
  obtain ⟨p0, p1, p2, p3, p4⟩ := fm_cells (blk_below KA.out BX.out)
  obtain ⟨q0, q1, q2, q3, q4⟩ := fm_cells KX.out
  go_wp2_with fail
  go_region_held3 (fun W => W.cell? ⟨w.heap.size, 0, none⟩ = some (.int .i64 x.f0) ∧ W.cell? ⟨w.heap.size, 1, none⟩ = some (.string x.f1) ∧ W.cell? ⟨w.heap.size, 2, none⟩ = some (.int .i64 x.f2) ∧ W.cell? ⟨w.heap.size, 3, none⟩ = some (.slice A3 x.f3.length Ac3) ∧ W.cell? ⟨w.heap.size, 4, none⟩ = some (.slice A4 x.f4.length Ac4) ∧ W.cell? ⟨w4.heap.size, 0, none⟩ = some (.int .i64 x.f0) ∧ W.cell? ⟨w4.heap.size, 1, none⟩ = some (.string x.f1) ∧ W.cell? ⟨w4.heap.size, 2, none⟩ = some (.int .i64 x.f2) ∧ W.cell? ⟨w4.heap.size, 3, none⟩ = some (.slice X3 x.f3.length Xc3) ∧ W.cell? ⟨w4.heap.size, 4, none⟩ = some (.slice X4 x.f4.length Xc4)) (first | go_keep | exact keepTen (below_step (Below.refl _ _).drew hba) ⟨p0, p1, p2, p3, p4, q0, q1, q2, q3, q4⟩ | exact keepTen (below_step (below_step (Below.refl _ _).drew hba) hbs) ⟨p0, p1, p2, p3, p4, q0, q1, q2, q3, q4⟩)
    ((first
      | (go_at_call 14; refine (HTF.out _ (below_step BW.out BX.out).drew).mono ?_; rintro e wa ⟨Y3, Yc3, Y4, Yc4, fy, rfl, oy, hba⟩)
      | (go_at_call 18; refine (eqForm_any x x _ _ _ _ _ _ _ _ _ (OX.out.now.below (below_step (Below.refl _ _).drew hba)) oy.now).mono ?_; rintro e ws ⟨rfl, hbs⟩)))
  have bb := below_step (below_step (Below.refl _ _).drew hba) hbs
  clear p0 p1 p2 p3 p4 q0 q1 q2 q3 q4
  replace KX := Lib.hid (blk_below KX.out bb)
  replace OX := Lib.hid (OX.out.later bb)
  replace OL := Lib.hid (OL.out.later bb)
  replace OG := Lib.hid (OwnI.later OG.out bb)
  replace BX := Lib.hid (below_step BX.out bb)
  clear bb hba hbs oy
  rw [eqB_self]
  go_wp2_with fail
  refine (HTS.out _ (below_step BW.out BX.out)).mono ?_
  rintro e w8 ⟨QA, Qc, rfl, oq, bb⟩
  have IQ := Lib.hid oq.now
  replace KX := Lib.hid (blk_below KX.out bb)
  replace OX := Lib.hid (OX.out.later bb)
  replace OL := Lib.hid (OL.out.later bb)
  replace OG := Lib.hid (OwnI.later OG.out bb)
  replace BX := Lib.hid (below_step BX.out bb)
  clear bb oq
  go_wp2_with fail
  refine (eqFormSX ls NA QA Nc Qc _ OL.out.now.2 OL.out.now.1 IQ.out.2 IQ.out.1).mono ?_
  rintro e w9 ⟨rfl, bb⟩
  replace KX := Lib.hid (blk_below KX.out bb)
  replace OX := Lib.hid (OX.out.later bb)
  replace OL := Lib.hid (OL.out.later bb)
  replace OG := Lib.hid (OwnI.later OG.out bb)
  replace BX := Lib.hid (below_step BX.out bb)
  clear bb IQ
  obtain ⟨q0, q1, q2, q3, q4⟩ := fm_cells KX.out
  go_wp2_with fail
  clear q0 q1 q2 q3 q4
  have hcx := x.cnt_tot
  have hcl := cntL_tot ls (fun k _ => k.cnt_tot)
  have HCN := Lib.hid (And.intro hcx hcl)
  clear hcx hcl
  refine (markForm_own 1 OX.out (by omega) (by have := HQ.out.1; omega)).mono ?_
  rintro e w10 ⟨rfl, _, hm⟩
  replace OL := Lib.hid (hm.ownL OL.out (.inl (by omega)))
  replace OG := Lib.hid (Mrk.ownI hm OG.out (.inl (by have := HS5.out; omega)))
  replace BX := Lib.hid (BX.out.trans (hm.below BX.out.size (Nat.le_refl _)))
  clear hm OX KX
  go_wp2_with fail
  refine (markFormS_own ((1 : Int) + (x.cnt : Int)) OL.out (by omega) (by have := HQ.out; have := HCN.out; omega)).mono ?_
  rintro e w11 ⟨rfl, hm⟩
  replace OG := Lib.hid (Mrk.ownI hm OG.out (.inl (Nat.le_refl _)))
  replace BX := Lib.hid (BX.out.trans (hm.below BX.out.size (by have := HSX.out; omega)))
  clear hm OL
  have hk : decide ((1 : Int) + (x.cnt : Int) + (cntL ls : Int) < 0) = false := decide_eq_false (by omega)
  go_wp2_with fail
  refine (eqIntS_any l l GA UA Gc Uc _ OG.out.now.2 OG.out.now.1 (Kd.C_below IU.out.2 BX.out) IU.out.1).mono ?_
  rintro e w12 ⟨rfl, bb⟩
  replace OG := Lib.hid (OwnI.later OG.out bb)
  replace BX := Lib.hid (below_step BX.out bb)
  clear bb hk
  rw [decide_eq_true (show l = l from rfl)]
  go_wp2_with fail
  refine (markIntS_own 1 OG.out (by omega) (by have := HLB.out; have := HQ.out; omega)).mono ?_
  rintro e w13 ⟨rfl, om, hm⟩
  have OM := Lib.hid om
  replace BX := Lib.hid (BX.out.trans (hm.below BX.out.size (by have := HS5.out; have := HSX.out; omega)))
  clear hm om OG
  have hk2 : decide ((1 : Int) + (l.length : Int) < 0) = false := decide_eq_false (by omega)
  have hk3 : (((1 : Int) + (l.length : Int)) != (1 + (l.length : Int))) = false := by simp
  go_wp2_with fail
  refine (heldIntS_own 1 OM.out (by omega) (by have := HLB.out; have := HQ.out; omega)).mono ?_
  rintro e w14 ⟨rfl, bb⟩
  replace OM := Lib.hid (OM.out.move_ bb)
  replace BX := Lib.hid (below_step BX.out bb)
  clear bb
  obtain ⟨p0, p1, p2, p3, p4⟩ := fm_cells (blk_below KA.out BX.out)
  go_wp2_with fail
  clear p0 p1 p2 p3 p4
  refine (HTF.out _ (below_step BW.out BX.out)).mono ?_
  rintro e w15 ⟨Q3, Qc3, Q4, Qc4, fq, rfl, o, bb⟩
  have IQ := Lib.hid o.now
  replace OM := Lib.hid (OM.out.move_ bb)
  replace BX := Lib.hid (below_step BX.out bb)
  clear o bb
  go_wp2_with fail
  refine (HTS.out _ (below_step BW.out BX.out)).mono ?_
  rintro e w16 ⟨RA, Rc, rfl, o, bb⟩
  have IR := Lib.hid o.now
  replace IQ := Lib.hid (IQ.out.below bb)
  replace OM := Lib.hid (OM.out.move_ bb)
  replace BX := Lib.hid (below_step BX.out bb)
  clear o bb
  go_wp2_with fail
  refine (HIM.out Q3 Qc3 Q4 Qc4 RA Rc _ IQ.out IR.out.2 IR.out.1).mono ?_
  rintro e w17 ⟨JA, Jc, rfl, o, bb⟩
  have IJ := Lib.hid o.now
  clear IQ IR
  replace OM := Lib.hid (OM.out.move_ bb)
  replace BX := Lib.hid (below_step BX.out bb)
  clear o bb
  go_wp2_with fail
  refine (eqIntS_any l l JA UA Jc Uc _ IJ.out.2 IJ.out.1 (Kd.C_below IU.out.2 BX.out) IU.out.1).mono ?_
  rintro e w18 ⟨rfl, bb⟩
  replace OM := Lib.hid (OM.out.move_ bb)
  replace BX := Lib.hid (below_step BX.out bb)
  clear bb IJ
  rw [decide_eq_true (show l = l from rfl)]
  go_wp2_with fail
  refine (heldIntS_own 1 OM.out (by omega) (by have := HLB.out; have := HQ.out; omega)).mono ?_
  rintro e w19 ⟨rfl, bb⟩
  replace OM := Lib.hid (OM.out.move_ bb)
  replace BX := Lib.hid (below_step BX.out bb)
  clear bb
  go_wp2_with fail
  go_ret
  exact ⟨rfl, below_step BW.out BX.out⟩
end Go.Proofs.Ytlklclebjeeaaaa
end
section
namespace Go.Proofs.Ytlklclebjeeaaaa.fnExactVarDepths
open Go.ChangeShapes Go.WideShapes Go.ChangeAt Go.RowKit Go.Proofs.Ytlklclebjeeaaaa
open Go.ChangeMaps (open_string shut_string)
set_option linter.unusedVariables false
theorem own : ownKnob Try.prog.godebug = none := by kernel_rfl
theorem laidOut : laidOutB Try.prog = true := by kernel_rfl
set_option maxRecDepth 100000 in
theorem lifted (os : Os) (started : os.Started) (H : Type) (enc : TypeId × Value → H) :
    ReturnsInHanded {} Try.checked os 9 .any (Rows.fnExactVarDepthsSpec.pre6 enc Try.prog Try.f9 Rows.fnExactVarDepthsRow.domain false) (Rows.fnExactVarDepthsSpec.post enc Try.prog Try.f9 false true false false) := by
  refine returnsInHanded_of_change_sized (C := Try.checked) own started (by kernel_rfl) Try.func9
    (ChangeSpec.witness6 (enc := enc) (C := Try.checked) false ⟨#[], #[.agg #[.int .i64 0, .string ByteArray.empty, .int .i64 0, .slice none 0 0, .slice none 0 0], .slice none 0 0], []⟩ 8 (by kernel_rfl) (by kernel_rfl) (by kernel_rfl) (by kernel_rfl)) ?_
  intro W base args ds gs before hval0 hW hcnd hsz0 _
  have hsz : (DataW.weightsEach Try.prog (Try.f9.params.toList ++ Rows.fnExactVarDepthsSpec.plain.varTypes Try.prog) (ds ++ gs)).all (· ≤ reachBytes) = true := hsz0
  have hval : ∀ (j : Nat) t v, Try.f9.params[j]? = some t → args[j]? = some v → Value.okWide Try.prog W .any base t v := hval0
  have hW' := hW
  obtain ⟨p, q, hA0, hV, rfl, hfz, hnd⟩ := hW
  have hA : DataW.TrodAll enc Try.prog W 0 (fun _ => true) true Try.f9.params.toList args.toList ds p := hA0
  rw [Try.params9] at hA hval hsz
  obtain ⟨v0, vs0, d0, ds0, p0, q0, hargs, rfl, rfl, h0, r0⟩ := trodAll_cons hA
  obtain ⟨v1, vs1, d1, ds1, p1, q1, rfl, rfl, rfl, h1, r1⟩ := trodAll_cons r0
  obtain ⟨rfl, rfl, rfl⟩ := trodAll_nil r1
  obtain rfl : args = #[v0, v1] := by cases args; simp_all
  obtain ⟨rfl, rfl⟩ := trodVars_none hV
  have k0 := h0
  have lt0 : ∀ x ∈ p0, x.block < W.heap.size := by obtain ⟨m, hm⟩ := k0; exact DataW.trod_lt m _ _ _ hm
  obtain ⟨x0, A0, c0, B0, e0, rfl, i0, z0⟩ := open_form (hval 0 26 v0 rfl rfl) h0
  have k1 := h1
  have lt1 : ∀ x ∈ p1, x.block < W.heap.size := by obtain ⟨m, hm⟩ := k1; exact DataW.trod_lt m _ _ _ hm
  obtain ⟨x1, A1, c1, rfl, hc1, hr1, z1⟩ := open_forms (hval 1 24 v1 rfl rfl) h1
  clear hA0 hval0 hsz0 hsz
  refine (fnExactVarDepths_walk x0 A0 c0 B0 e0 x1 A1 c1 W i0 z0 hc1 hr1 z1).mono fun e W' ⟨he, bel⟩ => ?_
  subst he
  exact ⟨_, rfl, _, _, _, [], _, [], hW', trodAll_mk1 (shut_bool Try.underlying4 _), (trodAll_cons_mk (Below.trod laidOut (by kernel_rfl) (of_decide_eq_true (by kernel_rfl)) k0 bel lt0) (trodAll_cons_mk (Below.trod laidOut (by kernel_rfl) (of_decide_eq_true (by kernel_rfl)) k1 bel lt1) trodAll_mk0)), rfl, bel.frame _, fun h => by cases h⟩
set_option maxRecDepth 100000 in
theorem closed : joinedFacts Try.prog 9 Try.f9 Rows.fnExactVarDepthsSpec Rows.fnExactVarDepthsRow = true := by
  unfold joinedFacts
  refine Bool.and_eq_true_iff.2 ⟨Bool.and_eq_true_iff.2 ⟨Bool.and_eq_true_iff.2 ⟨Bool.and_eq_true_iff.2 ⟨Bool.and_eq_true_iff.2 ⟨Bool.and_eq_true_iff.2 ⟨Bool.and_eq_true_iff.2 ⟨?_, mayEnter_yes⟩, (congrArg (fun b => Rows.fnExactVarDepthsRow.lifted == b) liftsFinal_no).trans (by kernel_rfl)⟩, (congrArg (fun b => b == some Rows.fnExactVarDepthsRow.make) make_cut).trans (by kernel_rfl)⟩, ?_⟩, ?_⟩, ?_⟩, ?_⟩
  all_goals kernel_rfl
theorem over : Rows.fnExactVarDepthsRow.holds Try.pinned (OpenSpec.ofChange Rows.fnExactVarDepthsSpec) :=
  OpenClaim.holds_of_wide 9 Try.f9 rfl rfl rfl rfl rfl rfl rfl ⟨rfl, rfl, rfl, rfl, rfl⟩ rfl rfl rfl rfl rfl (by kernel_rfl) Try.func9 closed
    (of_decide_eq_true (by kernel_rfl)) (by unfold Func.isWrapper; first | (rw [if_pos (by decide +kernel)]; kernel_rfl) | (rw [if_neg (by decide +kernel)]; exact ⟨rfl, rfl⟩))
    (fun os started H enc _ => lifted os started H enc)
end Go.Proofs.Ytlklclebjeeaaaa.fnExactVarDepths
namespace Go.Proofs.Ytlklclebjeeaaaa
/-- The row. -/
theorem fnExactVarDepths_holds : Rows.FnExactVarDepthsSaid := fnExactVarDepths.over
#print axioms fnExactVarDepths_holds
end Go.Proofs.Ytlklclebjeeaaaa
end
