/- Words for the laws' proofs (part 3): contracts of functions, and plain lemmas. -/
import Derived.Test.YteeepenncddnjaaDoorKd1
import Derived.Test.YteeepenncddnjaaDoorKd2
section
namespace Go.Proofs.YteeepenncddnjaaDoor
open Go.RowKit Go.Proofs.YteeepenncddnjaaDoorW.PrintWords Go.Proofs.YteeepenncddnjaaDoorW.PrintLast Go.Proofs.YteeepenncddnjaaDoorW.PrintMore
set_option linter.unusedVariables false
set_option linter.unusedSimpArgs false
/-- What a function that draws a form leaves. -/
def DrPost (w0 : World) (g : Nat) (s : List Int) (q : Int) (y : Fm) (w : World) (e : Ending) (w' : World) : Prop :=
  ∃ v3 v4, e = .returned (.agg #[.int .i64 y.f0, .string y.f1, .int .i64 y.f2, v3, v4]) ∧ NewF w.heap.size w' y v3 v4 ∧ IsRd w0 w' g s q ∧ Below w0.heap.size w0 w' ∧ KeepBut w w' g none
def DressOk (s : List Int) (x : Fm) (p : Nat) (y : Fm) (q : Nat) : Prop := ∀ (g : Nat) (A3 : Option Addr) (c3 : Nat) (A4 : Option Addr) (c4 : Nat) (w0 w : World), IsRd w0 w g s (p : Int) → Below w0.heap.size w0 w → FmIn w x A3 c3 A4 c4 →
  Calls Tryd.prog 29 #[.pointer (some ⟨g, 0, none⟩), .agg #[.int .i64 x.f0, .string x.f1, .int .i64 x.f2, .slice A3 x.f3.length c3, .slice A4 x.f4.length c4]] w (DrPost w0 g s (q : Int) y w)
theorem add_plain (b i : Nat) : (⟨b, 0, none⟩ : Addr).add i = ⟨b, i, none⟩ := by unfold Addr.add; split <;> simp_all
/-- A block of numbers reads as_ a row. -/
theorem reads_block {W : World} {b : Nat} {cs : Array Value} {l : List Int} (hb : W.heap[b]? = some (.cells cs 3 (0, 0))) (hl : l.length ≤ 1000) (hcs : cs.toList = l.map (Value.int .i64)) : kI.C W (some ⟨b, 0, none⟩) l.length l := by
  refine Kd.C_of_reads (d := (0 : Int)) (h1 := fun _ => rfl) ⟨rfl, by omega, fun hn => ⟨⟨b, 0, none⟩, rfl, fun i hi => ?_⟩⟩
  rw [add_plain, blk_cell hb i]
  have h9 := congrArg (fun z => z[i]?) hcs
  simp only [Array.getElem?_toList, List.getElem?_map] at h9
  rw [h9, List.getElem?_eq_getElem hi, List.getD_eq_getElem?_getD, List.getElem?_eq_getElem hi]
  rfl
theorem alloc_at (w : World) (o : Obj) (k : Nat) : (w.alloc o).heap[k]? = if k = w.heap.size then some o else w.heap[k]? := by
  show (w.heap.push o)[k]? = _
  rw [Array.getElem?_push]
theorem alloc_size (w : World) (o : Obj) : (w.alloc o).heap.size = w.heap.size + 1 := by simp
abbrev sets7 : List (List Int) := [(([] : List Int)), (([1] : List Int)), (([2] : List Int)), (([1, 2] : List Int)), (([1, 3] : List Int)), (([1, 2, 3] : List Int)), (([99] : List Int))]
/-- The seven sets, laid one behind the other from block B on; the row of them; an empty row. -/
theorem sets_lit {U W2 : World} {B : Nat} (hB : U.heap.size = B) (hW : ∀ b, B ≤ b → b < B + 9 → W2.heap[b]? = (((((((((U.alloc (.cells #[] 3)).alloc (.cells #[.int .i64 1] 3)).alloc (.cells #[.int .i64 2] 3)).alloc (.cells #[.int .i64 1, .int .i64 2] 3)).alloc (.cells #[.int .i64 1, .int .i64 3] 3)).alloc (.cells #[.int .i64 1, .int .i64 2, .int .i64 3] 3)).alloc (.cells #[.int .i64 99] 3)).alloc (.cells #[.slice (some ⟨B, 0, none⟩) 0 0, .slice (some ⟨B + 1, 0, none⟩) 1 1, .slice (some ⟨B + 1 + 1, 0, none⟩) 1 1, .slice (some ⟨B + 1 + 1 + 1, 0, none⟩) 2 2, .slice (some ⟨B + 1 + 1 + 1 + 1, 0, none⟩) 2 2, .slice (some ⟨B + 1 + 1 + 1 + 1 + 1, 0, none⟩) 3 3, .slice (some ⟨B + 1 + 1 + 1 + 1 + 1 + 1, 0, none⟩) 1 1] 23)).alloc (.cells #[] 3)).heap[b]?) (j : Nat) (hj : j < 7) :
    ∃ A c, W2.cell? ⟨B + 1 + 1 + 1 + 1 + 1 + 1 + 1, j, none⟩ = some (.slice A (sets7[j]'hj).length c) ∧ (sets7[j]'hj).length ≤ c ∧ kI.C W2 A (sets7[j]'hj).length (sets7[j]'hj) ∧ W2.heap[B + 1 + 1 + 1 + 1 + 1 + 1 + 1 + 1]? = some (.cells #[] 3 (0, 0)) := by
  subst hB
  have h0 := hW U.heap.size (by omega) (by omega)
  have h1 := hW (U.heap.size + 1) (by omega) (by omega)
  have h2 := hW (U.heap.size + 2) (by omega) (by omega)
  have h3 := hW (U.heap.size + 3) (by omega) (by omega)
  have h4 := hW (U.heap.size + 4) (by omega) (by omega)
  have h5 := hW (U.heap.size + 5) (by omega) (by omega)
  have h6 := hW (U.heap.size + 6) (by omega) (by omega)
  have h7 := hW (U.heap.size + 7) (by omega) (by omega)
  have h8 := hW (U.heap.size + 8) (by omega) (by omega)
  clear hW
  simp only [alloc_at, alloc_size] at h0 h1 h2 h3 h4 h5 h6 h7 h8
  repeat (first | rw [if_pos (by omega)] at h0 | rw [if_neg (by omega)] at h0)
  repeat (first | rw [if_pos (by omega)] at h1 | rw [if_neg (by omega)] at h1)
  repeat (first | rw [if_pos (by omega)] at h2 | rw [if_neg (by omega)] at h2)
  repeat (first | rw [if_pos (by omega)] at h3 | rw [if_neg (by omega)] at h3)
  repeat (first | rw [if_pos (by omega)] at h4 | rw [if_neg (by omega)] at h4)
  repeat (first | rw [if_pos (by omega)] at h5 | rw [if_neg (by omega)] at h5)
  repeat (first | rw [if_pos (by omega)] at h6 | rw [if_neg (by omega)] at h6)
  repeat (first | rw [if_pos (by omega)] at h7 | rw [if_neg (by omega)] at h7)
  repeat (first | rw [if_pos (by omega)] at h8 | rw [if_neg (by omega)] at h8)
  have hcell : ∀ (b : Nat) (cs : Array Value) (u : Value) (i : Nat) (e : TypeId), W2.heap[b]? = some (.cells cs e (0, 0)) → cs[i]? = some u → W2.cell? ⟨b, i, none⟩ = some u := fun b cs u i e hb hu => (blk_cell hb i).trans hu
  rcases (show j = 0 ∨ j = 1 ∨ j = 2 ∨ j = 3 ∨ j = 4 ∨ j = 5 ∨ j = 6 by omega) with rfl | rfl | rfl | rfl | rfl | rfl | rfl
  · exact ⟨_, _, hcell _ _ _ _ _ h7 rfl, Nat.le_refl _, reads_block h0 (by simp) rfl, h8⟩
  · exact ⟨_, _, hcell _ _ _ _ _ h7 rfl, Nat.le_refl _, reads_block h1 (by simp) rfl, h8⟩
  · exact ⟨_, _, hcell _ _ _ _ _ h7 rfl, Nat.le_refl _, reads_block h2 (by simp) rfl, h8⟩
  · exact ⟨_, _, hcell _ _ _ _ _ h7 rfl, Nat.le_refl _, reads_block h3 (by simp) rfl, h8⟩
  · exact ⟨_, _, hcell _ _ _ _ _ h7 rfl, Nat.le_refl _, reads_block h4 (by simp) rfl, h8⟩
  · exact ⟨_, _, hcell _ _ _ _ _ h7 rfl, Nat.le_refl _, reads_block h5 (by simp) rfl, h8⟩
  · exact ⟨_, _, hcell _ _ _ _ _ h7 rfl, Nat.le_refl _, reads_block h6 (by simp) rfl, h8⟩
/-- The last five stores: the form goes into the result. -/
theorem Dr.put5 {w0 w W : World} {g : Nat} {s : List Int} {q : Int} (h : Dr w0 w g s q W) {b : Nat} (hb : w.heap.size ≤ b) (u0 u1 u2 u3 u4 : Value) : Dr w0 w g s q (((((W.setCell ⟨b, 0, none⟩ u0).setCell ⟨b, 1, none⟩ u1).setCell ⟨b, 2, none⟩ u2).setCell ⟨b, 3, none⟩ u3).setCell ⟨b, 4, none⟩ u4) :=
  ((((h.put hb _).put hb _).put hb _).put hb _).put hb _
set_option maxHeartbeats 4000000 in
set_option maxRecDepth 100000 in
theorem dress_walk {s : List Int} (x : Fm) (p p1 q : Nat) (j : Nat) (hj : j < 7) (y3 : List Int) (ys : List Fm) (ps : Nat → Nat) (ht : x.tot ≤ 100000) (hpick : Ev (fun k => Q.spec_l15Rd_pick.f k s (p : Int) 7) ((j : Int), ((p + 1 : Nat) : Int)))
    (h1 : p1 = if x.f0 = 1 then p + 1 else p) (h3 : y3 = if x.f0 = 1 then sets7[j] else x.f3) (hyl : ys.length = x.f4.length) (hp0 : ps 0 = p1) (hpn : ps x.f4.length = q) (hys : ∀ (i : Nat) (hi : i < x.f4.length) (hi2 : i < ys.length), DressOk s x.f4[i] (ps i) ys[i] (ps (i + 1))) : DressOk s x p ⟨x.f0, x.f1, x.f2, y3, ys⟩ q := by
  intro g A3 c3 A4 c4 w0 w hi hb hin
  have hmax := hin.g4.2.1
  have HI := Lib.hid hin
  have HD0 := Lib.hid (Dr.new hi hb)
  have HT := Lib.hid ht
  have H1 := Lib.hid h1
  have H3 := Lib.hid h3
  have HYL := Lib.hid hyl
  have HP0 := Lib.hid hp0
  have HPN := Lib.hid hpn
  have HYS := Lib.hid hys
  have HJ := Lib.hid hj
  obtain ⟨kp, hkp⟩ := hpick.rounds
  have HKP := Lib.hid hkp
  have r1 : (0 : Int) ≤ (j : Int) := by omega
  have r2 : (j : Int) < 7 := by omega
  have hlen := len_totL x.f4
  have hxt := x.tot_eq
  have HLN := Lib.hid (show x.f4.length ≤ 100000 by omega)
  clear hin hi hb ht h1 h3 hp0 hpn hys hpick hkp hlen hxt hyl
  go_enter Tryd.func29, Tryd.ntmps29
  go_wp2_with fail
  refine (l1Copy_any x A3 c3 A4 c4 _ (HI.out.below (below_step (below_new _ _) (below_new _ _))) (by have := HT.out; omega)).mono ?_
  rintro e w1 ⟨u3, u4, rfl, hn, hb1⟩
  obtain ⟨J3, q3, J4, q4, rfl, rfl⟩ : ∃ J3 q3 J4 q4, u3 = .slice J3 x.f3.length q3 ∧ u4 = .slice J4 x.f4.length q4 := by
    obtain ⟨fk, hk2, _⟩ := hn
    obtain ⟨J3, q3, J4, q4, e3, e4, _⟩ := hk2.In
    exact ⟨J3, q3, J4, q4, e3, e4⟩
  obtain ⟨k1, k2, b1⟩ := two_new hb1
  rw [show ((w.alloc (.cells #[.int .i64 x.f0, .string x.f1, .int .i64 x.f2, .slice A3 x.f3.length c3, .slice A4 x.f4.length c4] 26)).alloc (.cells #[.int .i64 0, .string ⟨#[]⟩, .int .i64 0, .slice none 0 0, .slice none 0 0] 26)).heap.size = w.heap.size + 2 from by simp] at hn
  obtain ⟨inner, fp, hdp⟩ := Dp.start (HD0.out.later b1) k1 k2 hn
  have HDP := Lib.hid hdp
  obtain ⟨p0, p1_, p2, p3, p4⟩ := fm_cells (blk_below k1 (below_new w1 (.cells #[.int .i64 x.f0, .string x.f1, .int .i64 x.f2, .slice J3 x.f3.length q3, .slice J4 x.f4.length q4] 26 (0, 0))))
  clear hb1 hn k1 k2 b1 hdp
  go_upto_if 12 with fail
  (try simp only [Act.put, List.setIfInBounds_toArray, List.set_cons_zero, List.set_cons_succ])
  go_cut [] (fun wc => ∃ (D3 : Option Addr) (e3 : Nat) (inner : List Value) (fp : List Nat), Aside0 (Dp w0 w g s (p1 : Int) (.cells #[.int .i64 x.f0, .string x.f1, .int .i64 x.f2, .slice A3 x.f3.length c3, .slice A4 x.f4.length c4] 26) (.cells #[.int .i64 0, .string ⟨#[]⟩, .int .i64 0, .slice none 0 0, .slice none 0 0] 26) w1.heap.size x.f0 x.f1 x.f2 y3 x.f4 (.slice D3 y3.length e3) (.slice J4 x.f4.length q4) inner fp wc))
  case first =>
    by_cases hk : x.f0 = 1
    · have t1 : (x.f0 == 1) = true := beq_iff_eq.mpr hk
      have HX1 := Lib.hid hk
      clear hk
      (first | rw [t1] | skip)
      go_wp2_with fail
      refine (Q.spec_l15Rd_pick.calls kp g s (p : Int) 7 (j : Int) _ w0 _ (HDP.out.dr.later (by repeat (first | exact Below.refl _ _ | refine below_alloc ?_ _))).is (HDP.out.dr.later (by repeat (first | exact Below.refl _ _ | refine below_alloc ?_ _))).b HKP.out).mono ?_
      rintro e w2 ⟨rfl, hi2, hb2, hk2⟩
      have hset := sets_lit (U := w1.alloc (.cells #[.int .i64 x.f0, .string x.f1, .int .i64 x.f2, .slice J3 x.f3.length q3, .slice J4 x.f4.length q4] 26 (0, 0))) (W2 := w2) (B := w1.heap.size + 1) (by simp) (fun b hb1 hb2 => hk2.2 b (by simp only [alloc_size]; omega) (by have := HDP.out.dr.lt; have := HDP.out.h3; omega) (by simp)) j HJ.out
      obtain ⟨As, cs, hcell, hcl, hC, hemp⟩ := hset
      have hdp2 := (HDP.out.later (by repeat (first | exact Below.refl _ _ | refine below_alloc ?_ _))).call hi2 hb2 hk2
      have hfr := HDP.out.fresh (b := w1.heap.size + 1 + 1 + 1 + 1 + 1 + 1 + 1 + 1 + 1) (by simp only [alloc_size]; omega)
      have hR0 : kI.R 3 w2 (w1.heap.size + 1) (fun _ => True) (.slice (some ⟨w1.heap.size + 1 + 1 + 1 + 1 + 1 + 1 + 1 + 1 + 1, 0, none⟩) 0 0) [] :=
        Kd.R_of_own ⟨by simp [encs], .inr ⟨_, 0, #[], rfl, by omega, hemp, Nat.le_refl _, Nat.zero_le _, by simp, by simp [encs]⟩⟩ (fun _ _ => trivial)
      have hl7 : (sets7[j]'HJ.out).length ≤ 3 := by
        rcases (show j = 0 ∨ j = 1 ∨ j = 2 ∨ j = 3 ∨ j = 4 ∨ j = 5 ∨ j = 6 by have := HJ.out; omega) with rfl | rfl | rfl | rfl | rfl | rfl | rfl <;> simp
      have HL7 := Lib.hid hl7
      have HR0 := Aside0.mk hR0
      have HCC := Aside0.mk hC
      have HD2 := Lib.hid hdp2
      have HFR := Lib.hid hfr
      have HEL := Lib.hid (blk_lt hemp)
      clear hi2 hb2 hk2 hcl hC hemp hdp2 hfr hR0 hl7
      go_wp2_with (first | ((with_reducible refine gate_dst (N := 29) rfl ?_); refine Kd.R_append_row (Value.int .i64) (0 : Int) (w0 := w2) (w1.heap.size + 1) rfl (.tmp 21) (.tmp 28) 23 3 (.int .i64 0) 8 rfl Tryd.underlying23 infoI rfl (by decide) (.slice (some ⟨w1.heap.size + 1 + 1 + 1 + 1 + 1 + 1 + 1 + 1 + 1, 0, none⟩) 0 0) [] (sets7[j]'HJ.out) As (sets7[j]'HJ.out).length cs (fun _ => True) rfl rfl (fun _ _ => trivial) HR0.out HCC.out (Below.refl _ _) (by have := HEL.out; omega) (by have := HL7.out; simp; omega) ?_; intro v5 w3 ho5 hb5 hg5 hat5; rw [List.nil_append] at ho5; obtain ⟨D5, e5, e6⟩ := Kd.R_slice ho5; subst e6; have hbox3 := blk_grown HD2.out.k3 hg5 (by simp only [Value.ownBlock, ne_eq, Option.some.injEq]; omega); have z3 := (fm_cells hbox3).2.2.2.1; have f3 := (fm_free hbox3).2.2.2.1; have HO5 := Aside0.mk ho5; have HG5 := Lib.hid (And.intro hg5 hat5); clear hbox3 ho5 hb5 hg5 hat5))
      go_meet
      case rel =>
        have hq := H1.out
        have hy := H3.out
        rw [if_pos HX1.out] at hq hy
        rw [hq, hy]
        refine ⟨D5, e5, inner, fp, ⟨HD2.out.scopes HG5.out.1 (fun b hb => ?_) (own_weaken (Kd.own_of_R HO5.out) (Nat.zero_le _)) (fun b hb => ?_)⟩⟩
        · have e : b = w1.heap.size + 1 + 1 + 1 + 1 + 1 + 1 + 1 + 1 + 1 := by simpa [Value.ownBlock] using hb.symm
          rw [e]; exact HFR.out
        · rcases HG5.out.2 with h | ⟨c, h, hc⟩
          · rw [h] at hb
            have e : b = w1.heap.size + 1 + 1 + 1 + 1 + 1 + 1 + 1 + 1 + 1 := by simpa [Value.ownBlock] using hb.symm
            rw [e]; exact HFR.out
          · rw [h] at hb
            cases hb
            exact HD2.out.fresh hc
    · have t1 : (x.f0 == 1) = false := beq_eq_false_iff_ne.mpr hk
      have HX1 := Lib.hid hk
      clear hk
      (first | rw [t1] | skip)
      go_wp2
      go_meet
      case rel =>
        have hq := H1.out
        have hy := H3.out
        rw [if_neg HX1.out] at hq hy
        rw [hq, hy]
        exact ⟨J3, q3, inner, fp, ⟨HDP.out⟩⟩
  case rest =>
    obtain ⟨D3, e3, inner0, fp0, HCP⟩ := hcut
    clear HDP p0 p1_ p2 p3 p4 inner fp
    go_wp2_with fail
    go_loopg [7] x.f4.length (fun kq v7 w' => ∃ i : Nat, i ≤ x.f4.length ∧ x.f4.length - i ≤ kq ∧ v7 = .int .i64 i ∧ Aside0 (∃ inner fp, Dp w0 w g s (ps i : Int) (.cells #[.int .i64 x.f0, .string x.f1, .int .i64 x.f2, .slice A3 x.f3.length c3, .slice A4 x.f4.length c4] 26) (.cells #[.int .i64 0, .string ⟨#[]⟩, .int .i64 0, .slice none 0 0, .slice none 0 0] 26) w1.heap.size x.f0 x.f1 x.f2 y3 (ys.take i ++ x.f4.drop i) (.slice D3 y3.length e3) (.slice J4 x.f4.length q4) inner fp w'))
    case atStart => exact ⟨0, Nat.zero_le _, by omega, rfl, ⟨⟨inner0, fp0, by rw [HP0.out]; simpa using HCP.out⟩⟩⟩
    case round =>
      obtain ⟨i, hi, hg, rfl, HO⟩ := hrel
      by_cases hlt : i < x.f4.length
      · obtain ⟨inner, fp, hC⟩ := HO.out
        have hyl2 := HYL.out
        have hlen : (ys.take i ++ x.f4.drop i).length = x.f4.length := by simp; omega
        have ho4 := hC.o4
        rw [hlen] at ho4
        obtain ⟨gr, cap, e, hgr0, hgr1⟩ := ho4.form (by omega)
        obtain ⟨rfl, rfl⟩ : J4 = some ⟨gr, 0, none⟩ ∧ q4 = cap := by injection e with e1 _ e2; exact ⟨e1, e2⟩
        clear e
        have htr := hC.tr
        rw [List.drop_eq_getElem_cons hlt] at htr
        obtain ⟨ia, ib0, fa, fb0, rfl, rfl, hta, htb0⟩ := TrL.split _ htr
        obtain ⟨z3, z4, ib, fx, fb, rfl, rfl, htx, htb⟩ := TrL.cons_inv htb0
        have hla := hta.len
        rw [List.length_take, Nat.min_eq_left (by omega)] at hla
        obtain ⟨G3, m3, G4, m4, rfl, rfl, hkin⟩ := htx.In
        have HLEN := Lib.hid hlen
        have HTA := Lib.hid hta
        have HTB := Lib.hid htb
        have HLA := Lib.hid hla
        have HKIN := Lib.hid hkin
        have HC := Lib.hid hC
        have SK := Lib.hid (fun (W : World) (q' : Int) (h : Dp w0 w g s q' (.cells #[.int .i64 x.f0, .string x.f1, .int .i64 x.f2, .slice A3 x.f3.length c3, .slice A4 x.f4.length c4] 26) (.cells #[.int .i64 0, .string ⟨#[]⟩, .int .i64 0, .slice none 0 0, .slice none 0 0] 26) w1.heap.size x.f0 x.f1 x.f2 y3 (ys.take i ++ x.f4.drop i) (.slice D3 y3.length e3) (.slice (some ⟨gr, 0, none⟩) x.f4.length q4) (ia ++ ([.int .i64 x.f4[i].f0, .string x.f4[i].f1, .int .i64 x.f4[i].f2, .slice G3 x.f4[i].f3.length m3, .slice G4 x.f4[i].f4.length m4] ++ ib)) (fa ++ (fx ++ fb)) W) => (⟨(fm_cells h.k3).2.2.2.2, (row_put (by have := h.o4; rw [hlen] at this; exact this) hla).1⟩ : W.cell? ⟨w1.heap.size, 4, none⟩ = some (.slice (some ⟨gr, 0, none⟩) x.f4.length q4) ∧ W.cell? ⟨gr, i * 5, none⟩ = some (.int .i64 x.f4[i].f0) ∧ W.cell? ⟨gr, i * 5 + 1, none⟩ = some (.string x.f4[i].f1) ∧ W.cell? ⟨gr, i * 5 + 2, none⟩ = some (.int .i64 x.f4[i].f2) ∧ W.cell? ⟨gr, i * 5 + 3, none⟩ = some (.slice G3 x.f4[i].f3.length m3) ∧ W.cell? ⟨gr, i * 5 + 4, none⟩ = some (.slice G4 x.f4[i].f4.length m4)))
        have hp4 := (SK.out _ _ hC).1
        have s1 : (0 : Int) ≤ (i : Int) := by omega
        have s2 : (i : Int) < (x.f4.length : Int) := by omega
        clear hC hlen ho4 htr hta htb htb0 htx hla hkin hyl2 HO hgr0 hgr1
        go_wp2_with fail
        have HD := Lib.hid (HC.out.later (below_drew (Below.refl _ _)))
        have HKD := Lib.hid (HKIN.out.below (below_drew (Below.refl _ _)))
        have HDK := Lib.hid (fun b (hb : b < wr.heap.size) => (below_drew (Below.refl wr.heap.size wr)).block b hb)
        refine start_ (n := 12) (S := fun W => W.cell? ⟨w1.heap.size, 4, none⟩ = some (.slice (some ⟨gr, 0, none⟩) x.f4.length q4) ∧ W.cell? ⟨gr, i * 5, none⟩ = some (.int .i64 x.f4[i].f0) ∧ W.cell? ⟨gr, i * 5 + 1, none⟩ = some (.string x.f4[i].f1) ∧ W.cell? ⟨gr, i * 5 + 2, none⟩ = some (.int .i64 x.f4[i].f2) ∧ W.cell? ⟨gr, i * 5 + 3, none⟩ = some (.slice G3 x.f4[i].f3.length m3) ∧ W.cell? ⟨gr, i * 5 + 4, none⟩ = some (.slice G4 x.f4[i].f4.length m4)) (ds := [11]) #[false, false, false, false, false, false, false, false, false, false, false, false] (by kernel_rfl) rfl rfl (SK.out _ _ HD.out) (fun hHeld => ?_)
        clear hp4
        generalize wr.drew = wd at HD HKD HDK hHeld ⊢
        refine pure_ (i := 0) (N := some 38) (v := ?_) (a' := ?_) #[true, false, false, false, false, false, false, false, false, false, false, false] rfl rfl (by kernel_rfl) (fun _ _ _ h => h) (Or.inl ⟨by rfl, ?_⟩) ?_ ?_
        rotate_left
        · intro w'
          go_simp
          with_reducible rfl
        rotate_left
        · simp only [Act.put, List.setIfInBounds_toArray, List.set_cons_zero, List.set_cons_succ, i64_w, i32_w]
          rfl
        refine pure_ (i := 2) (N := some 40) (v := ?_) (a' := ?_) #[true, false, true, false, false, false, false, false, false, false, false, false] rfl rfl (by kernel_rfl) (fun _ _ _ h => h) (Or.inl ⟨by rfl, ?_⟩) ?_ ?_
        rotate_left
        · intro w'
          go_simp
          with_reducible rfl
        rotate_left
        · simp only [Act.put, List.setIfInBounds_toArray, List.set_cons_zero, List.set_cons_succ, i64_w, i32_w]
          rfl
        refine pure_ (i := 3) (N := some 41) (v := ?_) (a' := ?_) #[true, false, true, true, false, false, false, false, false, false, false, false] rfl rfl (by kernel_rfl) (fun _ _ _ h => h) (Or.inl ⟨by rfl, ?_⟩) ?_ ?_
        rotate_left
        · intro w'
          go_simp
          with_reducible rfl
        rotate_left
        · simp only [Act.put, List.setIfInBounds_toArray, List.set_cons_zero, List.set_cons_succ, i64_w, i32_w]
          rfl
        refine pure_ (i := 4) (N := some 42) (v := ?_) (a' := ?_) #[true, false, true, true, true, false, false, false, false, false, false, false] rfl rfl (by kernel_rfl) (fun _ _ _ h => h) (Or.inl ⟨by rfl, ?_⟩) ?_ ?_
        rotate_left
        · intro w'
          go_simp
          with_reducible rfl
        rotate_left
        · simp only [Act.put, List.setIfInBounds_toArray, List.set_cons_zero, List.set_cons_succ, i64_w, i32_w]
          rfl
        refine pure_ (i := 6) (N := some 44) (v := ?_) (a' := ?_) #[true, false, true, true, true, false, true, false, false, false, false, false] rfl rfl (by kernel_rfl) (fun _ _ _ h => h) (Or.inl ⟨by rfl, ?_⟩) ?_ ?_
        rotate_left
        · intro w'
          go_simp
          with_reducible rfl
        rotate_left
        · simp only [Act.put, List.setIfInBounds_toArray, List.set_cons_zero, List.set_cons_succ, i64_w, i32_w]
          rfl
        refine take_ (i := 1) (N := some 39) (v := ?_) (a' := ?_) #[true, true, true, true, true, false, true, false, false, false, false, false] rfl rfl (by kernel_rfl) (fun _ _ _ h => h) (Or.inl ⟨by rfl, ?_⟩) hHeld ?_ ?_
        rotate_left
        · rintro w' ⟨s0, e0, e1, e2, e3_, e4⟩
          go_simp
          with_reducible rfl
        rotate_left
        · simp only [Act.put, List.setIfInBounds_toArray, List.set_cons_zero, List.set_cons_succ, i64_w, i32_w]
          rfl
        refine take_ (i := 5) (N := some 43) (v := ?_) (a' := ?_) #[true, true, true, true, true, true, true, false, false, false, false, false] rfl rfl (by kernel_rfl) (fun _ _ _ h => h) (Or.inl ⟨by rfl, ?_⟩) hHeld ?_ ?_
        rotate_left
        · rintro w' ⟨s0, e0, e1, e2, e3_, e4⟩
          go_simp
          with_reducible rfl
        rotate_left
        · simp only [Act.put, List.setIfInBounds_toArray, List.set_cons_zero, List.set_cons_succ, i64_w, i32_w]
          rfl
        refine pure_ (i := 7) (N := some 45) (v := ?_) (a' := ?_) #[true, true, true, true, true, true, true, true, false, false, false, false] rfl rfl (by kernel_rfl) (fun _ _ _ h => h) (Or.inl ⟨by rfl, ?_⟩) ?_ ?_
        rotate_left
        · intro w'
          go_simp
          with_reducible rfl
        rotate_left
        · simp only [Act.put, List.setIfInBounds_toArray, List.set_cons_zero, List.set_cons_succ, i64_w, i32_w]
          rfl
        refine take_ (i := 8) (N := some 46) (v := ?_) (a' := ?_) #[true, true, true, true, true, true, true, true, true, false, false, false] rfl rfl (by kernel_rfl) (fun _ _ _ h => h) (Or.inl ⟨by rfl, ?_⟩) hHeld ?_ ?_
        rotate_left
        · rintro w' ⟨s0, e0, e1, e2, e3_, e4⟩
          go_simp
          with_reducible rfl
        rotate_left
        · simp only [Act.put, List.setIfInBounds_toArray, List.set_cons_zero, List.set_cons_succ, i64_w, i32_w]
          rfl
        refine one_ (i := 9) (N := some 47) #[true, true, true, true, true, true, true, true, true, true, false, false] rfl rfl (by kernel_rfl) (by decide) (fun K hK => ?_)
        refine goes_ Tryd.func29 (by kernel_rfl) rfl #[.pointer (some ⟨g, 0, none⟩), .agg #[.int .i64 x.f4[i].f0, .string x.f4[i].f1, .int .i64 x.f4[i].f2, .slice G3 x.f4[i].f3.length m3, .slice G4 x.f4[i].f4.length m4]] (by rfl) rfl rfl (by (try simp only [List.map_toArray, List.map_cons, List.map_nil]); first | done | rfl) ?_
        refine (HYS.out i hlt (by have := HYL.out; omega) g G3 m3 G4 m4 w0 wd HD.out.dr.is HD.out.dr.b HKD.out).mono ?_
        rintro e w7 ⟨u3, u4, rfl, hn, hi7, hb7, hk7⟩
        refine ⟨_, rfl, ?_⟩
        have hy9 : i < ys.length := by have := HYL.out; omega
        obtain ⟨U3, n3_, U4, n4_, rfl, rfl⟩ : ∃ U3 n3 U4 n4, u3 = .slice U3 (ys[i]'hy9).f3.length n3 ∧ u4 = .slice U4 (ys[i]'hy9).f4.length n4 := by
          obtain ⟨fk, hk2, _⟩ := hn
          obtain ⟨J3, q3, J4, q4, e3, e4, _⟩ := hk2.In
          exact ⟨J3, q3, J4, q4, e3, e4⟩
        have H7 := Lib.hid (HD.out.call hi7 hb7 hk7)
        have HN := Lib.hid hn
        have HK7 := Lib.hid hk7
        clear hn hi7 hb7 hk7
        refine hK.out _ _ (SK.out _ _ H7.out) (fun hHeld => ?_)
        clear hK K
        refine norm_ (a' := ?_) ?_ ?_
        rotate_left
        · show Act.put _ (some 47) _ = _
          simp only [Act.put, List.setIfInBounds_toArray, List.set_cons_zero, List.set_cons_succ, i64_w, i32_w]
          rfl
        refine pure_ (i := 10) (N := some 48) (v := ?_) (a' := ?_) #[true, true, true, true, true, true, true, true, true, true, true, false] rfl rfl (by kernel_rfl) (fun _ _ _ h => h) (Or.inl ⟨by rfl, ?_⟩) ?_ ?_
        rotate_left
        · intro w'
          go_simp
          with_reducible rfl
        rotate_left
        · simp only [Act.put, List.setIfInBounds_toArray, List.set_cons_zero, List.set_cons_succ, i64_w, i32_w]
          rfl
        refine last_ (i := 11) (N := none) #[true, true, true, true, true, true, true, true, true, true, true, true] rfl rfl (by kernel_rfl) (by decide) (fun K hK => ?_)
        obtain ⟨_, z0, z1, z2, z3, z4⟩ := SK.out _ _ H7.out
        have hfz := (row_put (by have := H7.out.o4; rw [HLEN.out] at this; exact this) HLA.out).2.1
        have f0 := hfz (i * 5)
        have f1 := hfz (i * 5 + 1)
        have f2 := hfz (i * 5 + 2)
        have f3 := hfz (i * 5 + 3)
        have f4 := hfz (i * 5 + 4)
        clear hfz
        have HX := Lib.hid (show ys.take i ++ ys[i] :: x.f4.drop (i + 1) = ys.take (i + 1) ++ x.f4.drop (i + 1) from by rw [List.take_succ_eq_append_getElem hy9, List.append_assoc]; rfl)
        have hla2 : (ys.take i).length = i := by have := HYL.out; simp; omega
        have hltd := HD.out.lt
        obtain ⟨fp', hC7⟩ := H7.out.kid (B := wd.heap.size) HLEN.out.symm (by rw [List.drop_eq_getElem_cons hlt]) rfl rfl (HTA.out.move _ (fun b hb => by have hl := HC.out.lt b (by simp [hb]); have hge := HC.out.ge b (by simp [hb]); have hg0 := HC.out.dr.lt; rw [HK7.out.2 b (by have := HD.out.lt b (by simp [hb]); omega) (by omega) (by simp)]; exact HDK.out b hl)) (HTB.out.move _ (fun b hb => by have hl := HC.out.lt b (by simp [hb]); have hge := HC.out.ge b (by simp [hb]); have hg0 := HC.out.dr.lt; rw [HK7.out.2 b (by have := HD.out.lt b (by simp [hb]); omega) (by omega) (by simp)]; exact HDK.out b hl)) hltd HD.out.lts.2 HD.out.lts.1 HN.out
        rw [hla2] at hC7
        rw [HX.out] at hC7
        have HC7 := Lib.hid hC7
        clear hC7 hla2 hltd
        refine skip_ (w1 := ?_) (by rfl) rfl ?_ ?_
        rotate_left
        · go_simp
          rfl
        refine hK.out _ _ ?_
        clear hK K z0 z1 z2 z3 z4 f0 f1 f2 f3 f4
        refine done_ (by kernel_rfl) ?_
        try go_wp2
        go_roundg (x.f4.length - (i + 1))
        case measure => omega
        case rel => exact ⟨i + 1, by omega, Nat.le_refl _, by go_num, ⟨⟨_, _, HC7.out⟩⟩⟩
      · obtain rfl : i = x.f4.length := by omega
        obtain ⟨inner, fp, hC⟩ := HO.out
        rw [List.drop_length, List.append_nil, List.take_of_length_le (by have := HYL.out; omega)] at hC
        have hyl2 := HYL.out
        obtain ⟨p0, p1_, p2, p3, p4⟩ := fm_cells hC.k3
        obtain ⟨z0, z1, z2, z3, z4⟩ := fm_cells hC.k2
        obtain ⟨f0, f1, f2, f3, f4⟩ := fm_free hC.k2
        have hn1 : w1.heap.size ≠ w.heap.size + 1 := by have := hC.h3; omega
        have hn2 : w.heap.size + 1 ≠ w1.heap.size := fun e => hn1 e.symm
        obtain ⟨st1, st2, st3⟩ := st5 hC.k2 (.int .i64 x.f0) (.string x.f1) (.int .i64 x.f2) (.slice D3 y3.length e3) (.slice J4 x.f4.length q4)
        have HN := Lib.hid (hC.newF st2)
        have hdr := hC.dr.put5 (b := w.heap.size + 1) (by omega) (.int .i64 x.f0) (.string x.f1) (.int .i64 x.f2) (.slice D3 y3.length e3) (.slice J4 x.f4.length q4)
        rw [HPN.out] at hdr
        have HB := Lib.hid hdr
        clear hC HO st1 st2 st3 hdr hyl2
        go_wp2_with fail
        refine bodyPost_ret (v := .agg #[.int .i64 x.f0, .string x.f1, .int .i64 x.f2, .slice D3 y3.length e3, .slice J4 x.f4.length q4]) (by simp [results, Tryd.results29, go_sem, z0, z1, z2, z3, z4]) rfl ?_
        exact ⟨_, _, rfl, HN.out, HB.out.is, HB.out.b, HB.out.kp⟩
end Go.Proofs.YteeepenncddnjaaDoor
end
section
namespace Go.Proofs.YteeepenncddnjaaDoor
open Go.RowKit Go.Proofs.YteeepenncddnjaaDoorW.PrintWords
set_option linter.unusedVariables false
set_option linter.unusedSimpArgs false
/-- What l1Dress keeps of a form, and what it gives to a name. -/
structure Drs (x y : Fm) : Prop where
  f0 : y.f0 = x.f0
  f1 : y.f1 = x.f1
  f2 : y.f2 = x.f2
  f3 : x.f0 = 1 → y.f3 ∈ sets7
  f4 : x.f4 = [] → y.f4 = []
def DressEx (s : List Int) (x : Fm) : Prop := ∀ p : Nat, p + x.size ≤ 1000000 → ∃ (y : Fm) (q : Nat), q ≤ p + x.size ∧ y.tot ≤ x.tot + 3 * x.size ∧ y.size = x.size ∧ Drs x y ∧ DressOk s x p y q
theorem dress_list {s : List Int} : ∀ (ks : List Fm), (∀ k, k ∈ ks → DressEx s k) → ∀ p : Nat, p + sizes ks ≤ 1000000 → ∃ (ys : List Fm) (ps : Nat → Nat), ys.length = ks.length ∧ ps 0 = p ∧ ps ks.length ≤ p + sizes ks ∧ totL ys ≤ totL ks + 3 * sizes ks ∧ sizes ys = sizes ks ∧ ∀ (i : Nat) (hi : i < ks.length) (hi2 : i < ys.length), DressOk s ks[i] (ps i) ys[i] (ps (i + 1))
  | [], _, p, _ => ⟨[], fun _ => p, rfl, rfl, by simp [sizes], by simp [totL], rfl, fun i hi => absurd hi (by simp)⟩
  | k :: ks, ih, p, hp => by
    simp only [sizes] at hp
    obtain ⟨y, q, h1, h2, h3, _, h5⟩ := ih k List.mem_cons_self p (by omega)
    obtain ⟨ys, ps, a1, a2, a3, a4, a5, a6⟩ := dress_list ks (fun k' hk => ih k' (List.mem_cons_of_mem _ hk)) q (by omega)
    refine ⟨y :: ys, fun i => match i with | 0 => p | i + 1 => ps i, by simp [a1], rfl, by simp only [List.length_cons, sizes]; omega, by simp only [totL, sizes]; omega, by simp only [sizes]; omega, fun i hi hi2 => ?_⟩
    cases i with
    | zero => simpa [a2] using h5
    | succ i => simpa using a6 i (by simpa using hi) (by simpa using hi2)
theorem sets7_mem {j : Nat} (hj : j < 7) : sets7[j] ∈ sets7 := List.getElem_mem hj
theorem sets7_len : ∀ z, z ∈ sets7 → z.length ≤ 3 := by
  intro z hz
  simp only [sets7, List.mem_cons, List.not_mem_nil, or_false] at hz
  rcases hz with h | h | h | h | h | h | h <;> simp [h]
theorem dress_ex {s : List Int} (hs : Bts s) : ∀ x : Fm, x.tot ≤ 100000 → DressEx s x := by
  intro x
  induction x using Fm.ind with
  | h x ih =>
    intro ht p hp
    have hsz := x.size_eq
    have htt := x.tot_eq
    obtain ⟨v, hv, hpick⟩ := ev_pick hs p (by omega) 7 (by omega)
    obtain ⟨j, rfl⟩ := Int.eq_ofNat_of_zero_le (hv (by omega)).1
    have hj : j < 7 := by have := (hv (by omega)).2; omega
    have hp1 : (if x.f0 = 1 then p + 1 else p) ≤ p + 1 := by split <;> omega
    obtain ⟨ys, ps, a1, a2, a3, a4, a5, a6⟩ := dress_list x.f4 (fun k hk => ih k hk (by have := totL_mem hk; omega)) (if x.f0 = 1 then p + 1 else p) (by omega)
    have h7 := sets7_len _ (sets7_mem hj)
    have hy3 : (if x.f0 = 1 then sets7[j] else x.f3).length ≤ x.f3.length + 3 := by split <;> omega
    refine ⟨⟨x.f0, x.f1, x.f2, if x.f0 = 1 then sets7[j] else x.f3, ys⟩, ps x.f4.length, by omega, ?_, ?_, ⟨rfl, rfl, rfl, fun h => ?_, fun h => ?_⟩, ?_⟩
    · rw [Fm.tot_eq]; dsimp only; omega
    · rw [Fm.size_eq]; dsimp only; omega
    · dsimp only; rw [if_pos h]; exact sets7_mem hj
    · dsimp only; rw [h] at a1; exact List.eq_nil_of_length_eq_zero (by simpa using a1)
    · exact dress_walk x p _ _ j hj _ ys ps ht hpick rfl rfl a1 a2 rfl a6
end Go.Proofs.YteeepenncddnjaaDoor
end
section
namespace Go.Proofs.YteeepenncddnjaaDoor
open Go.RowKit Go.Proofs.YteeepenncddnjaaDoorW.PrintWords Go.Proofs.YteeepenncddnjaaDoorW.PrintLast Go.Proofs.YteeepenncddnjaaDoorW.PrintMore
set_option linter.unusedVariables false
set_option linter.unusedSimpArgs false
theorem reads_strs {W : World} {b : Nat} {cs : Array Value} {l : List ByteArray} (hb : W.heap[b]? = some (.cells cs 9 (0, 0))) (hl : l.length ≤ 1000) (hcs : cs.toList = l.map Value.string) : Kd.string.C W (some ⟨b, 0, none⟩) l.length l := by
  refine Kd.C_of_reads (d := ByteArray.empty) (h1 := fun _ => rfl) ⟨rfl, by omega, fun hn => ⟨⟨b, 0, none⟩, rfl, fun i hi => ?_⟩⟩
  rw [add_plain, blk_cell hb i]
  have h9 := congrArg (fun z => z[i]?) hcs
  simp only [Array.getElem?_toList, List.getElem?_map] at h9
  rw [h9, List.getElem?_eq_getElem hi, List.getD_eq_getElem?_getD, List.getElem?_eq_getElem hi]
  rfl
abbrev badNms : List ByteArray := [(⟨#[]⟩ : ByteArray), (⟨#[65]⟩ : ByteArray), (⟨#[116, 111, 111, 108, 111, 110, 103, 97, 110, 97, 109, 101, 49]⟩ : ByteArray), (⟨#[122]⟩ : ByteArray), (⟨#[120, 32, 121]⟩ : ByteArray)]
def MutOk (s : List Int) (x : Fm) (p : Nat) (y : Fm) (q : Nat) : Prop := ∀ (g : Nat) (A3 : Option Addr) (c3 : Nat) (A4 : Option Addr) (c4 : Nat) (w0 w : World), IsRd w0 w g s (p : Int) → Below w0.heap.size w0 w → FmIn w x A3 c3 A4 c4 →
  Calls Tryd.prog 32 #[.pointer (some ⟨g, 0, none⟩), .agg #[.int .i64 x.f0, .string x.f1, .int .i64 x.f2, .slice A3 x.f3.length c3, .slice A4 x.f4.length c4]] w (DrPost w0 g s (q : Int) y w)
end Go.Proofs.YteeepenncddnjaaDoor
end
section
namespace Go.Proofs.YteeepenncddnjaaDoor
set_option linter.unusedVariables false
def Bn : Nat → Nat
  | 0 => 13
  | d + 1 => 13 + 3 * (Bn d + 1)
abbrev nms : List ByteArray := [(⟨#[97]⟩ : ByteArray), (⟨#[98]⟩ : ByteArray), (⟨#[120]⟩ : ByteArray), (⟨#[121]⟩ : ByteArray), (⟨#[102]⟩ : ByteArray), (⟨#[105, 102]⟩ : ByteArray), (⟨#[108, 101, 116]⟩ : ByteArray), (⟨#[43]⟩ : ByteArray)]
end Go.Proofs.YteeepenncddnjaaDoor
end
section
namespace Go.Proofs.YteeepenncddnjaaDoor
open Go.RowKit Go.Proofs.YteeepenncddnjaaDoorW.PrintWords
set_option linter.unusedVariables false
set_option linter.unusedSimpArgs false
end Go.Proofs.YteeepenncddnjaaDoor
end
section
namespace Go.Proofs.YteeepenncddnjaaDoor.Q
open Go.RowKit Go.Proofs.YteeepenncddnjaaDoorW.PrintWords Go.Proofs.YteeepenncddnjaaDoorW.PrintLast Go.Proofs.YteeepenncddnjaaDoorW.PrintMore
attribute [local go_sem] max2_int min2_int max_two min_two max_three min_three max_four min_four   -- for this text's walks alone
set_option linter.unusedVariables false
set_option linter.unusedSimpArgs false

def spec_l3Copy.l0 : Nat → List (S60) → List (S60) → Int → Option ((List (S60)))
  | 0, _, _, _ => none
  | k + 1, x0, x3, x4 => if x4 < (x0.length : Int) then (if 0 ≤ x4 then ((some (([] : List Int) : List Int)).bind fun y287 => (if y287.length + ((rd_T60 x0 x4).f1).length < 17592186044416 then (if x3.length < 2932031007402 then (spec_l3Copy.l0 k x0 (x3 ++ [(⟨(rd_T60 x0 x4).f0, (y287 ++ ((rd_T60 x0 x4).f1)), (rd_T60 x0 x4).f2⟩ : S60)]) (wrap64 (x4 + 1))) else (none)) else (none))) else (none)) else (some x3)
def spec_l3Copy.f (k : Nat) (l0 : List (S60)) : Option ((List (S60))) := spec_l3Copy.l0 k l0 (([] : List (S60))) 0
theorem spec_l3Copy.mono_l : ∀ k, (∀ y0 y1 y2, LeO (spec_l3Copy.l0 k y0 y1 y2) (spec_l3Copy.l0 (k + 1) y0 y1 y2))
  | 0 => fun _ _ _ r h => by simp [spec_l3Copy.l0] at h
  | k + 1 => by
    have ih0 := spec_l3Copy.mono_l k
    · intro y0 y1 y2
      unfold spec_l3Copy.l0
      repeat' first
      | (with_reducible exact ih0 _ _ _)
      | (with_reducible exact LeO.refl _)
      | (with_reducible exact LeO.none _)
      | (with_reducible refine LeO.ite ?_ ?_)
      | (with_reducible refine LeO.bind ?_ (fun _ => ?_))
      | exact ih0 _ _ _
      | exact LeO.none _
      | refine LeO.ite ?_ ?_
      | refine LeO.bind ?_ (fun _ => ?_)
theorem spec_l3Copy.mono : ∀ a0 k, LeO (spec_l3Copy.f k a0) (spec_l3Copy.f (k + 1) a0) := by
  intro a0 k
  have ih0 := spec_l3Copy.mono_l k
  unfold spec_l3Copy.f
  repeat' first
      | (with_reducible exact ih0 _ _ _)
      | (with_reducible exact LeO.refl _)
      | (with_reducible exact LeO.none _)
      | (with_reducible refine LeO.ite ?_ ?_)
      | (with_reducible refine LeO.bind ?_ (fun _ => ?_))
      | exact ih0 _ _ _
      | exact LeO.none _
      | refine LeO.ite ?_ ?_
      | refine LeO.bind ?_ (fun _ => ?_)
set_option maxHeartbeats 8000000 in
set_option maxRecDepth 100000 in
theorem spec_l3Copy.calls (k : Nat) (A0 : Option Addr) (c0 : Nat) (l0 : List (S60)) (r : List (S60)) (w : World) (hr0 : Kd.C k60 w A0 l0.length l0) (hc0 : l0.length ≤ c0) (h : spec_l3Copy.f k l0 = some r) :
    Calls Tryd.prog 78 #[.slice A0 l0.length c0] w fun e w' => ∃ v0_ : Value, e = .returned (v0_) ∧ Kd.S k60 60 w' w.heap.size (fun _ => True) v0_ r ∧ Below w.heap.size w w' := by
  have hu60 := Tryd.underlying60
  have HR0 := Aside0.mk hr0
  have HC0 := Aside0.mk hc0
  clear hr0 hc0
  have HB := Aside0.mk (Below.refl w.heap.size w)
  have H : (spec_l3Copy.l0 k l0 (([] : List (S60))) 0) = some r := h
  clear h
  obtain ⟨y282, hy282⟩ : ∃ y_ : List (S60), y_ = (([] : List (S60))) := ⟨_, rfl⟩
  replace H : (spec_l3Copy.l0 k l0 y282 0) = some r := by first | (rw [hy282]; with_reducible exact H) | (have H2_ := (Option.bind_some _ _).symm.trans H; rw [hy282]; with_reducible exact H2_) | (have H2_ := (Option.bind_some _ _).symm.trans H; with_reducible exact H2_) | with_reducible exact H | (rw [hy282]; exact H) | exact H
  have Ny282 := Aside0.mk hy282
  clear hy282
  have H' := Aside0.mk H
  clear H
  go_enter Tryd.func78, Tryd.ntmps78
  go_wp2_with (first | ((with_reducible refine gate_dst (N := 6) rfl ?_); refine Kd.S_lit k60 _ 60 ?hg (N := 6) ?hd (xs := ([] : List (S60))) (inner := []) (ok := fun _ => True) (okp := fun _ => True) ?hr ?hp (fun _ hk => hk) trivial (Below.refl _ _) (Nat.le_refl _) (by simp) ?_; (case hd => rfl); (case hg => rfl); (case hr => first | (go_simp; done) | (go_simp; rfl)); (case hp => exact (Reps.none _ _)); intro v283 w2 ho3 hb hg_ hnew_; clear hg_ hnew_; (first | rw [← Ny282.out] at ho3 | (simp only [Int.reduceToNat] at ho3; rw [← Ny282.out] at ho3)); have n0_ := Aside0.mk (Kd.S_lower ho3 (below_size (by repeat (first | (with_reducible first | exact HB.out | apply below_alloc | apply pw_below_drewN | apply below_drew1) | exact HB.out)))); have n1_ := Aside0.mk (below_step (by repeat (first | (with_reducible first | exact HB.out | apply below_alloc | apply pw_below_drewN | apply below_drew1) | exact HB.out)) hb); clear HB; have HO284 := n0_; have HB := n1_; clear n0_ n1_; clear hb ho3))
  go_loopg [3, 4] k (fun kq v3 v4 w' => ∃ (x3_1 : List (S60)) (x4_1 : Int), v4 = .int .i64 x4_1 ∧ Aside0 (spec_l3Copy.l0 kq l0 x3_1 x4_1 = some r) ∧ Aside0 (kq ≤ k) ∧ Aside0 (Kd.S k60 60 w' w.heap.size (fun _ => True) v3 x3_1) ∧ Aside0 (Below w.heap.size w w'))
  case atStart => exact ⟨(y282), (0), (by first | rfl | (simp; done) | (simp [*]; done)), H', ⟨Nat.le_refl _⟩, ⟨by (with_reducible repeat (first | apply Kd.S_alloc | apply Kd.S_drewN | apply Kd.S_drew)); exact HO284.out⟩, ⟨by repeat (first | (with_reducible first | exact HB.out | apply below_alloc | apply pw_below_drewN | apply below_drew1) | exact HB.out)⟩⟩
  case round =>
    clear H'
    try clear p2
    obtain ⟨x3_1, x4_1, rfl, HA, HK1, HO_3, HB⟩ := hrel
    cases gk with
    | zero => exact absurd HA.out (by simp [spec_l3Copy.l0])
    | succ k1 =>
      have H := HA.out
      clear HA
      simp only [spec_l3Copy.l0] at H
      by_cases c4 : x4_1 < (l0.length : Int)
      · rw [if_pos c4] at H
        have c4b0 : decide (x4_1 < (l0.length : Int)) = true := decide_eq_true c4
        clear c4
        by_cases c5 : 0 ≤ x4_1
        · rw [if_pos c5] at H
          have c5b0 : decide (0 ≤ x4_1) = true := decide_eq_true c5
          clear c5
          obtain ⟨y287, hy287⟩ : ∃ y_ : List Int, y_ = (([] : List Int)) := ⟨_, rfl⟩
          replace H : (if y287.length + ((rd_T60 l0 x4_1).f1).length < 17592186044416 then (if x3_1.length < 2932031007402 then (spec_l3Copy.l0 k1 l0 (x3_1 ++ [(⟨(rd_T60 l0 x4_1).f0, (y287 ++ ((rd_T60 l0 x4_1).f1)), (rd_T60 l0 x4_1).f2⟩ : S60)]) (wrap64 (x4_1 + 1))) else (none)) else (none)) = some r := by first | (rw [hy287]; with_reducible exact H) | (have H2_ := (Option.bind_some _ _).symm.trans H; rw [hy287]; with_reducible exact H2_) | (have H2_ := (Option.bind_some _ _).symm.trans H; with_reducible exact H2_) | with_reducible exact H | (rw [hy287]; exact H) | exact H
          have Ny287 := Aside0.mk hy287
          clear hy287
          by_cases c6 : y287.length + ((rd_T60 l0 x4_1).f1).length < 17592186044416
          · rw [if_pos c6] at H
            have LMc6 := Aside0.mk c6
            clear c6
            obtain ⟨y290, hy290⟩ : ∃ y_ : List Int, y_ = (y287 ++ ((rd_T60 l0 x4_1).f1)) := ⟨_, rfl⟩
            replace H : (if x3_1.length < 2932031007402 then (spec_l3Copy.l0 k1 l0 (x3_1 ++ [(⟨(rd_T60 l0 x4_1).f0, y290, (rd_T60 l0 x4_1).f2⟩ : S60)]) (wrap64 (x4_1 + 1))) else (none)) = some r := by first | (rw [hy290]; with_reducible exact H) | (have H2_ := (Option.bind_some _ _).symm.trans H; rw [hy290]; with_reducible exact H2_) | (have H2_ := (Option.bind_some _ _).symm.trans H; with_reducible exact H2_) | with_reducible exact H | (rw [hy290]; exact H) | exact H
            have Ny290 := Aside0.mk hy290
            clear hy290
            by_cases c7 : x3_1.length < 2932031007402
            · rw [if_pos c7] at H
              have LMc7 := Aside0.mk c7
              clear c7
              obtain ⟨y293, hy293⟩ : ∃ y_ : List (S60), y_ = (x3_1 ++ [(⟨(rd_T60 l0 x4_1).f0, y290, (rd_T60 l0 x4_1).f2⟩ : S60)]) := ⟨_, rfl⟩
              replace H : (spec_l3Copy.l0 k1 l0 y293 (wrap64 (x4_1 + 1))) = some r := by first | (rw [hy293]; with_reducible exact H) | (have H2_ := (Option.bind_some _ _).symm.trans H; rw [hy293]; with_reducible exact H2_) | (have H2_ := (Option.bind_some _ _).symm.trans H; with_reducible exact H2_) | with_reducible exact H | (rw [hy293]; exact H) | exact H
              have Ny293 := Aside0.mk hy293
              clear hy293
              have H' := Aside0.mk H
              clear H
              have p285 : 0 ≤ (x4_1 : Int) := of_decide_eq_true (by first | (with_reducible assumption) | assumption)
              have q285 : x4_1 < (l0.length : Int) := of_decide_eq_true (by first | (with_reducible assumption) | assumption)
              obtain ⟨ad285, A285_1, c285_1, e285, hx285_0, hx285_1, hx285_2, hl285_1, hi285_1⟩ := at_T60 HR0.out x4_1 p285 q285
              cases e285
              replace hx285_0 := (HB.out.cell (World.block_lt_of_cell? w _ hx285_0)).trans hx285_0
              replace hx285_1 := (HB.out.cell (World.block_lt_of_cell? w _ hx285_1)).trans hx285_1
              replace hx285_2 := (HB.out.cell (World.block_lt_of_cell? w _ hx285_2)).trans hx285_2
              have HR285_1 := Aside0.mk hi285_1
              have HC285_1 := Aside0.mk hl285_1
              clear hi285_1 hl285_1
              replace p285 := eq_true p285
              replace q285 := eq_true q285
              go_wp2_with (first | ((with_reducible refine gate_dst (N := 5) rfl ?_); refine box_event ?hg (N := 5) ?hd (cs := #[.string (⟨#[]⟩ : ByteArray), .slice none 0 0, .int .i64 0]) (t := 60) ?hr ?_; (case hd => rfl); (case hg => rfl); (case hr => first | (go_simp; done) | (go_simp; rfl)); intro gb286 hg w8 hbox hb; have n0_ := Aside0.mk (Kd.S_below (Kd.S_elderB (by (with_reducible repeat (first | apply Kd.S_alloc | apply Kd.S_drewN | apply Kd.S_drew)); exact HO_3.out) gb286 (Nat.le_of_eq hg.symm)) hb); have n1_ := Aside0.mk (below_step (by repeat (first | (with_reducible first | exact HB.out | apply below_alloc | apply pw_below_drewN | apply below_drew1) | exact HB.out)) hb); have n2_ := Aside0.mk (hbox); have n3_ := Aside0.mk ((by rw [hg]; exact (below_size (by repeat (first | (with_reducible first | exact HB.out | apply below_alloc | apply pw_below_drewN | apply below_drew1) | exact HB.out))) : w.heap.size ≤ gb286)); have n4_ := Aside0.mk ((by rw [hg]; exact (below_size (by repeat (first | (with_reducible first | exact HB.out | apply below_alloc | apply pw_below_drewN | apply below_drew1) | exact HB.out))) : w.heap.size ≤ gb286)); clear HO_3; clear HB; have HO_3 := n0_; have HB := n1_; have BK286 := n2_; have GW286 := n3_; have GE286 := n4_; clear n0_ n1_ n2_ n3_ n4_; clear hb hbox hg; have hcz9_0 : w8.cell? ⟨gb286, 0, none⟩ = some (.string (⟨#[]⟩ : ByteArray)) := (blk_cell BK286.out 0).trans rfl; have hcz9_1 : w8.cell? ⟨gb286, 1, none⟩ = some (.slice none 0 0) := (blk_cell BK286.out 1).trans rfl; have hcz9_2 : w8.cell? ⟨gb286, 2, none⟩ = some (.int .i64 0) := (blk_cell BK286.out 2).trans rfl; have hfz9_0 := blk_frozen BK286.out 0; have hfz9_1 := blk_frozen BK286.out 1; have hfz9_2 := blk_frozen BK286.out 2) | ((with_reducible refine gate_dst (N := 17) rfl ?_); refine Kd.R_lit (Kd.int .i64) _ 3 ?hg (N := 17) ?hd (xs := ([] : List Int)) (inner := []) (ok := fun _ => True) (okp := fun _ => True) ?hr ?hp (fun _ hk => hk) trivial (Below.refl _ _) (Nat.le_refl _) (by simp) ?_; (case hd => rfl); (case hg => rfl); (case hr => first | (go_simp; done) | (go_simp; rfl)); (case hp => exact (Reps.none _ _)); intro v288 w10 ho11 hb hg_ hnew_; clear hg_ hnew_; (first | rw [← Ny287.out] at ho11 | (simp only [Int.reduceToNat] at ho11; rw [← Ny287.out] at ho11)); have n0_ := Aside0.mk (Kd.S_elder' (by (with_reducible repeat (first | apply Kd.S_alloc | apply Kd.S_drewN | apply Kd.S_drew)); exact (Kd.S_mono (Kd.S_far (p := ⟨gb286, 2, none⟩) (Kd.S_far (p := ⟨gb286, 1, none⟩) (Kd.S_far (p := ⟨gb286, 0, none⟩) (Kd.S_mono HO_3.out (fun k_ hk => (⟨hk, hk.2⟩ : _ ∧ k_ ≠ gb286))) (fun _ hk => hk.2) (.string ((rd_T60 l0 x4_1).f0))) (fun _ hk => hk.2) (.slice A285_1 ((rd_T60 l0 x4_1).f1).length c285_1)) (fun _ hk => hk.2) (.int .i64 ((rd_T60 l0 x4_1).f2))) (fun _ h_ => h_.1))) (Kd.R_base ho11) hb); have n1_ := Aside0.mk (Kd.R_lower ho11 (below_size (by repeat (first | (with_reducible first | exact HB.out | apply below_alloc | apply pw_below_drewN | apply below_drew1 | refine below_set ?_ GE286.out) | exact HB.out)))); have n2_ := Aside0.mk (blk_below (g := gb286) (o := .cells #[.string ((rd_T60 l0 x4_1).f0), .slice A285_1 ((rd_T60 l0 x4_1).f1).length c285_1, .int .i64 ((rd_T60 l0 x4_1).f2)] 60 (0, 0)) (by (with_reducible repeat (first | refine blk_drewN ?_ _ | refine blk_drew ?_ | refine blk_alloc ?_ _)); refine blk_put (cs := #[.string ((rd_T60 l0 x4_1).f0), .slice A285_1 ((rd_T60 l0 x4_1).f1).length c285_1, .int .i64 0]) ?_ 2 _ rfl; (with_reducible repeat (first | refine blk_drewN ?_ _ | refine blk_drew ?_ | refine blk_alloc ?_ _)); refine blk_put (cs := #[.string ((rd_T60 l0 x4_1).f0), .slice none 0 0, .int .i64 0]) ?_ 1 _ rfl; (with_reducible repeat (first | refine blk_drewN ?_ _ | refine blk_drew ?_ | refine blk_alloc ?_ _)); refine blk_put (cs := #[.string (⟨#[]⟩ : ByteArray), .slice none 0 0, .int .i64 0]) ?_ 0 _ rfl; (with_reducible repeat (first | refine blk_drewN ?_ _ | refine blk_drew ?_ | refine blk_alloc ?_ _)); exact BK286.out) hb); have n3_ := Aside0.mk (below_step (by repeat (first | (with_reducible first | exact HB.out | apply below_alloc | apply pw_below_drewN | apply below_drew1 | refine below_set ?_ GE286.out) | exact HB.out)) hb); clear HO_3; clear BK286; clear HB; have HO_3 := n0_; have HO289 := n1_; have BK286 := n2_; have HB := n3_; clear n0_ n1_ n2_ n3_; clear hb ho11; have hcz12_0 : w10.cell? ⟨gb286, 0, none⟩ = some (.string ((rd_T60 l0 x4_1).f0)) := (blk_cell BK286.out 0).trans rfl; have hcz12_1 : w10.cell? ⟨gb286, 1, none⟩ = some (.slice A285_1 ((rd_T60 l0 x4_1).f1).length c285_1) := (blk_cell BK286.out 1).trans rfl; have hcz12_2 : w10.cell? ⟨gb286, 2, none⟩ = some (.int .i64 ((rd_T60 l0 x4_1).f2)) := (blk_cell BK286.out 2).trans rfl; have hfz12_0 := blk_frozen BK286.out 0; have hfz12_1 := blk_frozen BK286.out 1; have hfz12_2 := blk_frozen BK286.out 2) | ((with_reducible refine gate_builtin (b := .append) (xs := #[.tmp 17, .tmp 19]) rfl ?_); at_builtin; refine Kd.R_append_rows (Kd.int .i64) (w0 := w) w.heap.size rfl (.tmp 17) (.tmp 19) 23 3 (.int .i64 0) 8 rfl Tryd.underlying23 info3 rfl (by decide) (by omega) v288 y287 ((rd_T60 l0 x4_1).f1) _ _ _ (fun _ => True) (fun _ => False) rfl rfl ?aO ?aR (fun _ _ h => h) (fun _ h => h.elim) ?aF ?aB ?aS ?aL ?_; (case aR => repeat (first | exact (Kd.C_below HR285_1.out HB.out) | (with_reducible refine Kd.C_alloc ?_ _) | (with_reducible refine Kd.C_drewN ?_ _) | (with_reducible refine Kd.C_drew ?_))); (case aB => exact (by repeat (first | (with_reducible first | exact HB.out | apply below_alloc | apply pw_below_drewN | apply below_drew1 | refine below_set ?_ GE286.out) | exact HB.out))); (case aF => exact (fun _ _ => trivial)); (case aO => exact (by (with_reducible repeat (first | apply Kd.R_alloc | apply Kd.R_drewN | apply Kd.R_drew)); exact HO289.out)); (case aS => exact (below_size (by repeat (first | (with_reducible first | exact HB.out | apply below_alloc | apply pw_below_drewN | apply below_drew1 | refine below_set ?_ GE286.out) | exact HB.out)))); (case aL => have := LMc6.out; omega); intro v291 w13 ho hb hg hat; rw [← Ny290.out] at ho; have n0_ := Aside0.mk (Kd.S_after (ok := (fun k_ => k_ ≠ gb286)) (by (with_reducible repeat (first | apply Kd.S_alloc | apply Kd.S_drewN | apply Kd.S_drew)); exact Kd.S_mono HO_3.out (fun _ hk => ⟨hk.1.2, hk.2⟩)) hg hat); have n1_ := Aside0.mk (blk_grown (g := gb286) (o := .cells #[.string ((rd_T60 l0 x4_1).f0), .slice A285_1 ((rd_T60 l0 x4_1).f1).length c285_1, .int .i64 ((rd_T60 l0 x4_1).f2)] 60 (0, 0)) (by (with_reducible repeat (first | refine blk_drewN ?_ _ | refine blk_drew ?_ | refine blk_alloc ?_ _)); exact BK286.out) hg (Kd.R_ne HO289.out BK286.out (by decide))); have n2_ := Aside0.mk (hb); have n3_ := Aside0.mk (ho); clear HO_3; clear BK286; clear HB; clear HO289; have HO_3 := n0_; have BK286 := n1_; have HB := n2_; have HO292 := n3_; clear n0_ n1_ n2_ n3_; clear ho hb hg hat; obtain ⟨Ao14, co14, eo14⟩ := Kd.R_slice HO292.out; subst eo14; have hcz15_0 : w13.cell? ⟨gb286, 0, none⟩ = some (.string ((rd_T60 l0 x4_1).f0)) := (blk_cell BK286.out 0).trans rfl; have hcz15_1 : w13.cell? ⟨gb286, 1, none⟩ = some (.slice A285_1 ((rd_T60 l0 x4_1).f1).length c285_1) := (blk_cell BK286.out 1).trans rfl; have hcz15_2 : w13.cell? ⟨gb286, 2, none⟩ = some (.int .i64 ((rd_T60 l0 x4_1).f2)) := (blk_cell BK286.out 2).trans rfl; have hfz15_0 := blk_frozen BK286.out 0; have hfz15_1 := blk_frozen BK286.out 1; have hfz15_2 := blk_frozen BK286.out 2) | ((with_reducible refine gate_store (t := 23) (p := 21) rfl ?_); refine store_event (t := 23) (p := 21) (v := ?vo_w16) (w1 := (w13.setCell ⟨gb286, 1, none⟩ (.slice Ao14 y290.length co14))) ?hg ?ho ?hn ?hr ?_; (case ho => rfl); (case hg => rfl); (case hn => rfl); (case hr => first | (go_simp; done) | (go_simp; rfl)); intro w16 hw; have n0_ : Aside0 (Kd.S k60 60 w16 w.heap.size (fun k_ => some k_ ≠ (.slice Ao14 y290.length co14 : Value).ownBlock ∧ k_ ≠ gb286) u3 x3_1) := ⟨(by rw [hw]; exact (by (with_reducible repeat (first | apply Kd.S_alloc | apply Kd.S_drewN | apply Kd.S_drew)); exact Kd.S_mono (Kd.S_far (p := ⟨gb286, 1, none⟩) (Kd.S_mono HO_3.out (fun k_ hk => (⟨hk, hk.1⟩ : _ ∧ k_ ≠ gb286))) (fun _ hk => hk.2) (.slice Ao14 y290.length co14)) (fun _ hk => ⟨hk.1.2, hk.1.1⟩)))⟩; have n1_ : Aside0 (Kd.R (Kd.int .i64) 3 w16 w.heap.size (fun _ => True) (.slice Ao14 y290.length co14) y290) := ⟨(by rw [hw]; exact (by (with_reducible repeat (first | apply Kd.R_alloc | apply Kd.R_drewN | apply Kd.R_drew)); exact Kd.R_mono (Kd.R_far (p := ⟨gb286, 1, none⟩) (Kd.R_types HO292.out BK286.out (by decide)) (fun _ hk => hk.2) (.slice Ao14 y290.length co14)) (fun _ hk => trivial)))⟩; have n2_ : Aside0 (w16.heap[gb286]? = some (.cells #[.string ((rd_T60 l0 x4_1).f0), .slice Ao14 y290.length co14, .int .i64 ((rd_T60 l0 x4_1).f2)] 60 (0, 0))) := ⟨(by rw [hw]; exact (by (with_reducible repeat (first | refine blk_drewN ?_ _ | refine blk_drew ?_ | refine blk_alloc ?_ _)); refine blk_put (cs := #[.string ((rd_T60 l0 x4_1).f0), .slice A285_1 ((rd_T60 l0 x4_1).f1).length c285_1, .int .i64 ((rd_T60 l0 x4_1).f2)]) ?_ 1 _ rfl; (with_reducible repeat (first | refine blk_drewN ?_ _ | refine blk_drew ?_ | refine blk_alloc ?_ _)); exact BK286.out))⟩; have n3_ : Aside0 (Below w.heap.size w w16) := ⟨(by rw [hw]; exact (by repeat (first | (with_reducible first | exact HB.out | apply below_alloc | apply pw_below_drewN | apply below_drew1 | refine below_set ?_ GE286.out) | exact HB.out)))⟩; clear hw; clear HO_3; clear HO292; clear BK286; clear HB; have HO_3 := n0_; have HO292 := n1_; have BK286 := n2_; have HB := n3_; clear n0_ n1_ n2_ n3_; have hcz17_0 : w16.cell? ⟨gb286, 0, none⟩ = some (.string ((rd_T60 l0 x4_1).f0)) := (blk_cell BK286.out 0).trans rfl; have hcz17_1 : w16.cell? ⟨gb286, 1, none⟩ = some (.slice Ao14 y290.length co14) := (blk_cell BK286.out 1).trans rfl; have hcz17_2 : w16.cell? ⟨gb286, 2, none⟩ = some (.int .i64 ((rd_T60 l0 x4_1).f2)) := (blk_cell BK286.out 2).trans rfl; have hfz17_0 := blk_frozen BK286.out 0; have hfz17_1 := blk_frozen BK286.out 1; have hfz17_2 := blk_frozen BK286.out 2) | ((with_reducible refine gate_builtin (b := .append) (xs := #[.tmp 22, .tmp 24]) rfl ?_); at_builtin; refine Kd.S_append k60 (w0 := w) w.heap.size rfl (.tmp 22) (.tmp 24) 35 60 (.agg #[(.string ⟨#[]⟩), (.slice none 0 0), (.int .i64 0)]) 48 rfl Tryd.underlying35 info60 rfl (by decide) (by omega) u3 x3_1 (⟨(rd_T60 l0 x4_1).f0, y290, (rd_T60 l0 x4_1).f2⟩ : S60) [.string ((rd_T60 l0 x4_1).f0), .slice Ao14 y290.length co14, .int .i64 ((rd_T60 l0 x4_1).f2)] (fun k_ => k_ ≠ gb286) (fun k_ => some k_ = (.slice Ao14 y290.length co14 : Value).ownBlock) rfl rfl ?aP (fun k_ hk_ => ((Kd.R_mono (ok' := fun k_ => ((fun k_ => k_ ≠ gb286)) k_ ∧ some k_ ≠ (u3 : Value).ownBlock) (Kd.R_types (Kd.R_apart' (HO292.out) (Kd.S_typed HO_3.out) (by decide)) BK286.out (by decide)) (fun k_ hk => ⟨hk.2, hk.1.2⟩))).1 k_ hk_.symm) ?aF ?aO ?aB ?aS ?aL ?_; (case aP => exact k60_mkM _ _ _ (⟨(rd_T60 l0 x4_1).f0, y290, (rd_T60 l0 x4_1).f2⟩ : S60) (Kd.R_mono (Kd.R_tight rfl (Kd.R_mono (ok' := fun k_ => ((fun k_ => k_ ≠ gb286)) k_ ∧ some k_ ≠ (u3 : Value).ownBlock) (Kd.R_types (Kd.R_apart' (HO292.out) (Kd.S_typed HO_3.out) (by decide)) BK286.out (by decide)) (fun k_ hk => ⟨hk.2, hk.1.2⟩))) (fun _ h_ => h_))); (case aB => exact (by repeat (first | (with_reducible first | exact HB.out | apply below_alloc | apply pw_below_drewN | apply below_drew1 | refine below_set ?_ GE286.out) | exact HB.out))); (case aF => exact (fun k_ hk => Kd.freshB (g := gb286) (o := .cells #[.string ((rd_T60 l0 x4_1).f0), .slice Ao14 y290.length co14, .int .i64 ((rd_T60 l0 x4_1).f2)] 60 (0, 0)) (by (with_reducible repeat (first | refine blk_drewN ?_ _ | refine blk_drew ?_ | refine blk_alloc ?_ _)); exact BK286.out) k_ hk)); (case aO => exact (by (with_reducible repeat (first | apply Kd.S_alloc | apply Kd.S_drewN | apply Kd.S_drew)); exact Kd.S_mono HO_3.out (fun k_ hk => ⟨hk.2, fun e_ => hk.1 e_⟩))); (case aS => exact (below_size (by repeat (first | (with_reducible first | exact HB.out | apply below_alloc | apply pw_below_drewN | apply below_drew1 | refine below_set ?_ GE286.out) | exact HB.out)))); (case aL => have := LMc7.out; omega); intro v294 w18 ho hb hg hat; rw [← Ny293.out] at ho; have n0_ := Aside0.mk (blk_grown (g := gb286) (o := .cells #[.string ((rd_T60 l0 x4_1).f0), .slice Ao14 y290.length co14, .int .i64 ((rd_T60 l0 x4_1).f2)] 60 (0, 0)) (by (with_reducible repeat (first | refine blk_drewN ?_ _ | refine blk_drew ?_ | refine blk_alloc ?_ _)); exact BK286.out) hg (Kd.S_away HO_3.out (fun _ hk => hk.2))); have n1_ := Aside0.mk (hb); have n2_ := Aside0.mk (ho); clear BK286; clear HB; clear HO_3; clear HO292; have BK286 := n0_; have HB := n1_; have HO295 := n2_; clear n0_ n1_ n2_; clear ho hb hg hat))
              go_roundg k1
              case measure => have := HK1.out; omega
              case rel => exact ⟨(y293), (wrap64 (x4_1 + 1)), (by first | rfl | (simp; done) | (simp [*]; done)), H', ⟨by have := HK1.out; omega⟩, ⟨by (with_reducible repeat (first | apply Kd.S_alloc | apply Kd.S_drewN | apply Kd.S_drew)); exact Kd.S_mono HO295.out (fun _ hk => trivial)⟩, ⟨by repeat (first | (with_reducible first | exact HB.out | apply below_alloc | apply pw_below_drewN | apply below_drew1 | refine below_set ?_ GE286.out) | exact HB.out)⟩⟩
            · rw [if_neg c7] at H
              exact absurd H (by simp)
          · rw [if_neg c6] at H
            exact absurd H (by simp)
        · rw [if_neg c5] at H
          exact absurd H (by simp)
      · rw [if_neg c4] at H
        have c4b0 : decide (x4_1 < (l0.length : Int)) = false := decide_eq_false c4
        clear c4
        obtain rfl := Option.some.inj H
        go_wp2
        go_ret
        exact ⟨_, by first | rfl | (simp [errW_none, errW_some] <;> rfl) | (simp [*, errW_none, errW_some] <;> rfl), by (with_reducible repeat (first | apply Kd.S_alloc | apply Kd.S_drewN | apply Kd.S_drew)); exact HO_3.out, by repeat (first | (with_reducible first | exact HB.out | apply below_alloc | apply pw_below_drewN | apply below_drew1) | exact HB.out)⟩

end Go.Proofs.YteeepenncddnjaaDoor.Q
end
section
namespace Go.Proofs.YteeepenncddnjaaDoor
open Go.RowKit Go.Proofs.YteeepenncddnjaaDoorW.PrintWords Go.Proofs.YteeepenncddnjaaDoor.Q
set_option linter.unusedVariables false
end Go.Proofs.YteeepenncddnjaaDoor
end
section
namespace Go.Proofs.YteeepenncddnjaaDoor
open Go.RowKit Go.Proofs.YteeepenncddnjaaDoorW.PrintWords Go.Proofs.YteeepenncddnjaaDoorW.PrintLast Go.Proofs.YteeepenncddnjaaDoorW.PrintMore
set_option linter.unusedVariables false
set_option linter.unusedSimpArgs false
/-- The form x reads in w, and in every world in which the blocks from lo on stand as_ in w. -/
structure FmS (lo : Nat) (w : World) (x : Fm) (A3 : Option Addr) (c3 : Nat) (A4 : Option Addr) (c4 : Nat) : Prop where mk ::
  out : ∀ W : World, (∀ b, lo ≤ b → b < w.heap.size → W.heap[b]? = w.heap[b]?) → FmIn W x A3 c3 A4 c4
theorem FmS.now {lo : Nat} {w : World} {x : Fm} {A3 : Option Addr} {c3 : Nat} {A4 : Option Addr} {c4 : Nat} (h : FmS lo w x A3 c3 A4 c4) : FmIn w x A3 c3 A4 c4 := h.out w (fun _ _ _ => rfl)
theorem FmS.move {lo : Nat} {w W : World} {x : Fm} {A3 : Option Addr} {c3 : Nat} {A4 : Option Addr} {c4 : Nat} (h : FmS lo w x A3 c3 A4 c4) (hs : w.heap.size ≤ W.heap.size) (hm : ∀ b, lo ≤ b → b < w.heap.size → W.heap[b]? = w.heap[b]?) : FmS lo W x A3 c3 A4 c4 :=
  ⟨fun W' h' => h.out W' (fun b h1 h2 => (h' b h1 (Nat.lt_of_lt_of_le h2 hs)).trans (hm b h1 h2))⟩
theorem FmS.later {lo : Nat} {w W : World} {x : Fm} {A3 : Option Addr} {c3 : Nat} {A4 : Option Addr} {c4 : Nat} (h : FmS lo w x A3 c3 A4 c4) (hb : Below w.heap.size w W) : FmS lo W x A3 c3 A4 c4 := h.move hb.size (fun b _ hlt => hb.block b hlt)
theorem FmS.keep {lo g : Nat} {w W : World} {x : Fm} {A3 : Option Addr} {c3 : Nat} {A4 : Option Addr} {c4 : Nat} (h : FmS lo w x A3 c3 A4 c4) (hk : KeepBut w W g none) (hg : g < lo) : FmS lo W x A3 c3 A4 c4 := h.move hk.1 (fun b h1 hlt => hk.2 b hlt (by omega) (by simp))
theorem FmS.low {lo lo' : Nat} {w : World} {x : Fm} {A3 : Option Addr} {c3 : Nat} {A4 : Option Addr} {c4 : Nat} (h : FmS lo w x A3 c3 A4 c4) (hl : lo' ≤ lo) : FmS lo' w x A3 c3 A4 c4 := ⟨fun W hW => h.out W (fun b h1 h2 => hW b (Nat.le_trans hl h1) h2)⟩
/-- A form and another value are handed back; the form lies in new memory. -/
def GetFS (w : World) (x : Fm) (v : Value) (e : Ending) (w' : World) : Prop := ∃ A3 c3 A4 c4, e = .returned (.tuple #[.agg #[.int .i64 x.f0, .string x.f1, .int .i64 x.f2, .slice A3 x.f3.length c3, .slice A4 x.f4.length c4], v]) ∧ FmS w.heap.size w' x A3 c3 A4 c4 ∧ Below w.heap.size w w'
theorem GetFS.V {w : World} {x : Fm} {v : Value} {e : Ending} {w' : World} (h : GetFS w x v e w') : GetFV w x v e w' := by
  obtain ⟨A3, c3, A4, c4, he, hs, hb⟩ := h
  exact ⟨A3, c3, A4, c4, he, hs.now, hb⟩
theorem NewF.toS {B : Nat} {w : World} {x : Fm} {v3 v4 : Value} (h : NewF B w x v3 v4) : ∃ A3 c3 A4 c4, v3 = .slice A3 x.f3.length c3 ∧ v4 = .slice A4 x.f4.length c4 ∧ FmS B w x A3 c3 A4 c4 := by
  obtain ⟨fp, ht, _, hge⟩ := h
  obtain ⟨A3, c3, A4, c4, rfl, rfl, _⟩ := ht.In
  refine ⟨A3, c3, A4, c4, rfl, rfl, ⟨fun W hW => ?_⟩⟩
  obtain ⟨B3, d3, B4, d4, e3, e4, hi⟩ := (ht.move (w1 := W) x (fun b hb => hW b (hge b hb) (ht.lt x b hb))).In
  injection e3 with a1 _ a2
  injection e4 with a3 _ a4
  subst a1 a2 a3 a4
  exact hi
/-- A form is drawn: it lies in new memory, and the source stands at q. -/
def DrGet (w0 : World) (g : Nat) (s : List Int) (q : Nat) (y : Fm) (w : World) (e : Ending) (w' : World) : Prop :=
  ∃ A3 c3 A4 c4, e = .returned (.agg #[.int .i64 y.f0, .string y.f1, .int .i64 y.f2, .slice A3 y.f3.length c3, .slice A4 y.f4.length c4]) ∧ FmS w.heap.size w' y A3 c3 A4 c4 ∧ IsRd w0 w' g s (q : Int) ∧ Below w0.heap.size w0 w' ∧ KeepBut w w' g none
theorem DrPost.get {w0 : World} {g : Nat} {s : List Int} {q : Nat} {y : Fm} {w : World} {e : Ending} {w' : World} (h : DrPost w0 g s (q : Int) y w e w') : DrGet w0 g s q y w e w' := by
  obtain ⟨v3, v4, rfl, hn, hi, hb, hk⟩ := h
  obtain ⟨A3, c3, A4, c4, rfl, rfl, hs⟩ := hn.toS
  exact ⟨A3, c3, A4, c4, rfl, hs, hi, hb, hk⟩
def SomeOk (s : List Int) (d : Nat) (p : Nat) (y : Fm) (q : Nat) : Prop := ∀ (g : Nat) (w0 w : World), IsRd w0 w g s (p : Int) → Below w0.heap.size w0 w → Calls Tryd.prog 30 #[.pointer (some ⟨g, 0, none⟩), .int .i64 (d : Int)] w (DrGet w0 g s q y w)
/-- num over a literal in its own block. -/
theorem num_lit {s : List Int} {l : List Int} {cs : Array Value} (hcs : cs.toList = l.map (Value.int .i64)) (hl : l.length ≤ 1000) {p : Nat} {n : Int} (h : Ev (fun k => Q.spec_l15Rd_num.f k s (p : Int) l) (n, ((p + 1 : Nat) : Int))) (g : Nat) (w0 W : World) (hi : IsRd w0 W g s (p : Int)) (hb : Below w0.heap.size w0 W) :
    Calls Tryd.prog 62 #[.pointer (some ⟨g, 0, none⟩), .slice (some ⟨W.heap.size, 0, none⟩) l.length l.length] (W.alloc (.cells cs 3 (0, 0))) (fun e w' => e = .returned (.int .i64 n) ∧ IsRd w0 w' g s ((p + 1 : Nat) : Int) ∧ Below w0.heap.size w0 w' ∧ KeepBut W w' g none) := by
  obtain ⟨k, hk⟩ := h.rounds
  have hlt := Q.IsS78.lt hi
  refine (Q.spec_l15Rd_num.calls k g s _ (some ⟨W.heap.size, 0, none⟩) _ l n _ w0 _ (Q.IsS78.below hi (below_new _ _)) (below_step hb (below_new _ _)) (reads_block (blk_new W _) hl hcs) (Nat.le_refl _) (fun ad e _ => by cases e; show W.heap.size ≠ g; omega) hk).mono ?_
  rintro e w' ⟨rfl, h1, h2, h3⟩
  exact ⟨rfl, h1, h2, (KeepBut.of_below (below_new W _) g none).trans h3 (.inl rfl)⟩
/-- of over a literal in its own block. -/
theorem of_lit {s : List Int} {l : List ByteArray} {cs : Array Value} (hcs : cs.toList = l.map Value.string) (hl : l.length ≤ 1000) {p : Nat} {n : ByteArray} (h : Ev (fun k => Q.spec_l15Rd_of.f k s (p : Int) l) (n, ((p + 1 : Nat) : Int))) (g : Nat) (w0 W : World) (hi : IsRd w0 W g s (p : Int)) (hb : Below w0.heap.size w0 W) :
    Calls Tryd.prog 64 #[.pointer (some ⟨g, 0, none⟩), .slice (some ⟨W.heap.size, 0, none⟩) l.length l.length] (W.alloc (.cells cs 9 (0, 0))) (fun e w' => e = .returned (.string n) ∧ IsRd w0 w' g s ((p + 1 : Nat) : Int) ∧ Below w0.heap.size w0 w' ∧ KeepBut W w' g none) := by
  obtain ⟨k, hk⟩ := h.rounds
  have hlt := Q.IsS78.lt hi
  refine (Q.spec_l15Rd_of.calls k g s _ (some ⟨W.heap.size, 0, none⟩) _ l n _ w0 _ (Q.IsS78.below hi (below_new _ _)) (below_step hb (below_new _ _)) (reads_strs (blk_new W _) hl hcs) (Nat.le_refl _) (fun ad e _ => by cases e; show W.heap.size ≠ g; omega) hk).mono ?_
  rintro e w' ⟨rfl, h1, h2, h3⟩
  exact ⟨rfl, h1, h2, (KeepBut.of_below (below_new W _) g none).trans h3 (.inl rfl)⟩
/-- A pick. -/
theorem pick_at {s : List Int} {p : Nat} {n v : Int} (h : Ev (fun k => Q.spec_l15Rd_pick.f k s (p : Int) n) (v, ((p + 1 : Nat) : Int))) (g : Nat) (w0 W : World) (hi : IsRd w0 W g s (p : Int)) (hb : Below w0.heap.size w0 W) :
    Calls Tryd.prog 31 #[.pointer (some ⟨g, 0, none⟩), .int .i64 n] W (fun e w' => e = .returned (.int .i64 v) ∧ IsRd w0 w' g s ((p + 1 : Nat) : Int) ∧ Below w0.heap.size w0 w' ∧ KeepBut W w' g none) := by
  obtain ⟨k, hk⟩ := h.rounds
  refine (Q.spec_l15Rd_pick.calls k g s _ n v _ w0 _ hi hb hk).mono ?_
  rintro e w' ⟨rfl, h1, h2, h3⟩
  exact ⟨rfl, h1, h2, h3⟩
/-- The source is opened. -/
theorem open_at (l : List Int) (hl : ∀ z, z ∈ l → 0 ≤ z ∧ z < 256) : ∃ s, Bts s ∧ ∀ (A : Option Addr) (c : Nat) (w0 w : World), Below w0.heap.size w0 w → (Kd.int .u8).C w0 A l.length l → l.length ≤ c →
    Calls Tryd.prog 28 #[.slice A l.length c] w (fun e w' => ∃ g, e = .returned (.pointer (some ⟨g, 0, none⟩)) ∧ IsRd w0 w' g s ((0 : Nat) : Int) ∧ Below w0.heap.size w0 w' ∧ Below w.heap.size w w') := by
  obtain ⟨s, hs, he⟩ := ev_open l hl
  refine ⟨s, hs, fun A c w0 w hb hr hc => ?_⟩
  exact (Q.spec_l15Open.calls A c l s 0 w0 w hb hr hc he).mono fun e w' h => h
end Go.Proofs.YteeepenncddnjaaDoor
end
section
namespace Go.Proofs.YteeepenncddnjaaDoor
open Go.RowKit Go.Proofs.YteeepenncddnjaaDoorW.PrintWords Go.Proofs.YteeepenncddnjaaDoorW.PrintLast Go.Proofs.YteeepenncddnjaaDoorW.PrintMore
set_option linter.unusedVariables false
set_option linter.unusedSimpArgs false
end Go.Proofs.YteeepenncddnjaaDoor
end
section
namespace Go.Proofs.YteeepenncddnjaaDoor
open Go.RowKit Go.Proofs.YteeepenncddnjaaDoorW.PrintWords Go.Proofs.YteeepenncddnjaaDoorW.PrintLast Go.Proofs.YteeepenncddnjaaDoorW.PrintMore
set_option linter.unusedVariables false
set_option linter.unusedSimpArgs false
end Go.Proofs.YteeepenncddnjaaDoor
end
section
namespace Go.Proofs.YteeepenncddnjaaDoor
open Go.RowKit Go.Proofs.YteeepenncddnjaaDoorW.PrintWords Go.Proofs.YteeepenncddnjaaDoorW.PrintLast Go.Proofs.YteeepenncddnjaaDoorW.PrintMore
set_option linter.unusedVariables false
set_option linter.unusedSimpArgs false
theorem byteOk {n : Int} (h : (Lit.int .u8 n).wf = true) : 0 ≤ n ∧ n < 256 := by
  simp only [Lit.wf, Bool.and_eq_true, decide_eq_true_eq] at h
  have e1 : IntKind.u8.min = 0 := by decide
  have e2 : IntKind.u8.max = 255 := by decide
  omega
theorem RetF.get {w : World} {x : Fm} {e : Ending} {w' : World} (h : RetF w x e w') : GetF w x e w' := by
  obtain ⟨v3, v4, rfl, hn, hb⟩ := h
  obtain ⟨A3, c3, A4, c4, rfl, rfl, hi⟩ := hn.In
  exact ⟨A3, c3, A4, c4, rfl, hi, hb⟩
end Go.Proofs.YteeepenncddnjaaDoor
end
section
namespace Go.Proofs.YteeepenncddnjaaDoor
open Go.RowKit Go.Proofs.YteeepenncddnjaaDoorW.PrintWords Go.Proofs.YteeepenncddnjaaDoorW.PrintLast Go.Proofs.YteeepenncddnjaaDoorW.PrintMore
set_option linter.unusedVariables false
end Go.Proofs.YteeepenncddnjaaDoor
end
section
namespace Go.Proofs.YteeepenncddnjaaDoor
open Go.RowKit Go.Proofs.YteeepenncddnjaaDoorW.PrintWords Go.Proofs.YteeepenncddnjaaDoorW.PrintLast Go.Proofs.YteeepenncddnjaaDoorW.PrintMore
set_option linter.unusedVariables false
set_option linter.unusedSimpArgs false
/-- A form in new memory is handed back. -/
def GetSF (w : World) (x : Fm) (e : Ending) (w' : World) : Prop := ∃ A3 c3 A4 c4, e = .returned (.agg #[.int .i64 x.f0, .string x.f1, .int .i64 x.f2, .slice A3 x.f3.length c3, .slice A4 x.f4.length c4]) ∧ FmS w.heap.size w' x A3 c3 A4 c4 ∧ Below w.heap.size w w'
theorem GetSF.F {w : World} {x : Fm} {e : Ending} {w' : World} (h : GetSF w x e w') : GetF w x e w' := by
  obtain ⟨A3, c3, A4, c4, he, hs, hb⟩ := h
  exact ⟨A3, c3, A4, c4, he, hs.now, hb⟩
end Go.Proofs.YteeepenncddnjaaDoor
end
section
namespace Go.Proofs.YteeepenncddnjaaDoor
open Go.RowKit Go.Proofs.YteeepenncddnjaaDoorW.PrintWords Go.Proofs.YteeepenncddnjaaDoorW.PrintLast Go.Proofs.YteeepenncddnjaaDoorW.PrintMore
set_option linter.unusedVariables false
set_option linter.unusedSimpArgs false
/-- A row of strings is handed back. -/
def GetN (w : World) (r : List ByteArray) (e : Ending) (w' : World) : Prop := ∃ A c, e = .returned (.slice A r.length c) ∧ r.length ≤ c ∧ kS.C w' A r.length r ∧ Below w.heap.size w w'
theorem RetS.get {w : World} {r : List ByteArray} {e : Ending} {w' : World} (h : RetS w r e w') : GetN w r e w' := by
  obtain ⟨v, rfl, hn, hb⟩ := h
  obtain ⟨A, c, rfl, hc, hC⟩ := own_CS hn
  exact ⟨A, c, rfl, hc, hC, hb⟩
theorem nmStep_nodup {s : List ByteArray} (h : s.Nodup) (y : Fm) : (nmStep s y).Nodup := by
  unfold nmStep
  split
  · rename_i hc
    rw [List.nodup_append]
    exact ⟨h, by simp, fun a ha b hb e => hc.2 (by simp at hb; rw [← hb, ← e]; exact ha)⟩
  · exact h
mutual
theorem names_nodup : ∀ (x : Fm) {s : List ByteArray}, s.Nodup → (foldF nmStep x s).Nodup
  | ⟨a, b, c, d, ks⟩, s, h => by rw [foldF]; exact names_nodupL ks (nmStep_nodup h _)
theorem names_nodupL : ∀ (ks : List Fm) {s : List ByteArray}, s.Nodup → (foldFs nmStep ks s).Nodup
  | [], s, h => by rw [foldFs]; exact h
  | k :: ks, s, h => by rw [foldFs]; exact names_nodupL ks (names_nodup k h)
end
theorem mem_nmStep (s : List ByteArray) (y : Fm) (n : ByteArray) : n ∈ nmStep s y ↔ n ∈ s ∨ (y.f0 = 1 ∧ n = y.f1) := by
  unfold nmStep
  split
  · rename_i hc
    rw [List.mem_append, List.mem_singleton]
    constructor
    · rintro (h | h)
      · exact .inl h
      · exact .inr ⟨hc.1, h⟩
    · rintro (h | h)
      · exact .inl h
      · exact .inr h.2
  · rename_i hc
    constructor
    · exact .inl
    · rintro (h | ⟨h1, h2⟩)
      · exact h
      · exact Classical.byContradiction fun hn => hc ⟨h1, fun hm => hn (h2 ▸ hm)⟩
mutual
theorem mem_names : ∀ (x : Fm) (s : List ByteArray) (n : ByteArray), n ∈ foldF nmStep x s ↔ n ∈ s ∨ n ∈ foldF nmStep x []
  | ⟨a, b, c, d, ks⟩, s, n => by
    rw [foldF, foldF, mem_namesL ks, mem_namesL ks (nmStep [] _), mem_nmStep, mem_nmStep]
    simp [or_assoc]
theorem mem_namesL : ∀ (ks : List Fm) (s : List ByteArray) (n : ByteArray), n ∈ foldFs nmStep ks s ↔ n ∈ s ∨ n ∈ foldFs nmStep ks []
  | [], s, n => by rw [foldFs, foldFs]; simp
  | k :: ks, s, n => by
    rw [foldFs, foldFs, mem_namesL ks, mem_namesL ks (foldF nmStep k []), mem_names k]
    simp [or_assoc]
end
end Go.Proofs.YteeepenncddnjaaDoor
end
section
namespace Go.Proofs.YteeepenncddnjaaDoor
open Go.RowKit Go.Proofs.YteeepenncddnjaaDoorW.PrintWords Go.Proofs.YteeepenncddnjaaDoorW.PrintLast Go.Proofs.YteeepenncddnjaaDoorW.PrintMore
set_option linter.unusedVariables false
set_option linter.unusedSimpArgs false
/-- Neither a brace nor the end of a line. -/
def Pln (b : UInt8) : Prop := b.toNat ≠ 123 ∧ b.toNat ≠ 10
theorem dec_bytes : ∀ (n : Nat) (b : UInt8), b ∈ Lib.decDigits n → Pln b
  | n, b, h => by
    have one : ∀ k : Nat, k < 10 → Pln (UInt8.ofNat (48 + k)) := fun k hk => by
      unfold Pln
      rw [UInt8.toNat_ofNat']
      omega
    rw [Lib.decDigits] at h
    split at h
    · rename_i h1
      obtain rfl := List.mem_singleton.1 h
      exact one n h1
    · rcases List.mem_append.1 h with h | h
      · exact dec_bytes (n / 10) b h
      · obtain rfl := List.mem_singleton.1 h
        exact one (n % 10) (by omega)
termination_by n => n
decreasing_by omega
theorem itoa_bytes {n : Int} (h0 : 0 ≤ n) {b : UInt8} (h : b ∈ Lib.itoa n) : Pln b := by
  rw [itoa_pos n h0] at h
  exact dec_bytes _ b h
theorem name_bytes {s : ByteArray} (h : NmOk s) {b : UInt8} (hb : b ∈ s.data.toList) : Pln b := by
  rcases h with h | h | ⟨_, _, h⟩
  · rw [ByteArray.toList_eq] at h
    rw [h] at hb
    simp at hb
    subst hb
    exact ⟨by decide, by decide⟩
  · rw [ByteArray.toList_eq] at h
    rw [h] at hb
    simp at hb
    subst hb
    exact ⟨by decide, by decide⟩
  · obtain ⟨i, hi, rfl⟩ := List.getElem_of_mem hb
    have hi2 : i < s.size := by rw [Array.length_toList] at hi; exact hi
    have h1 := h i hi2
    have e : s[i] = s.data.toList[i] := rfl
    rw [e] at h1
    generalize s.data.toList[i] = c at h1
    refine ⟨fun hc => ?_, fun hc => ?_⟩
    · rw [hc] at h1; simp [letterB, digitB] at h1
    · rw [hc] at h1; simp [letterB, digitB] at h1
theorem join_mem {xs : List (List UInt8)} {sep : List UInt8} {b : UInt8} (h : b ∈ Lib.join xs sep) : b ∈ sep ∨ ∃ x, x ∈ xs ∧ b ∈ x := by
  cases xs with
  | nil => cases h
  | cons x r =>
    rw [Lib.join_cons] at h
    rcases List.mem_append.1 h with h | h
    · exact .inr ⟨x, List.mem_cons_self, h⟩
    · unfold Lib.joinTail at h
      obtain ⟨y, hy, hb⟩ := List.mem_flatten.1 h
      obtain ⟨z, hz, rfl⟩ := List.mem_map.1 hy
      rcases List.mem_append.1 hb with hb | hb
      · exact .inl hb
      · exact .inr ⟨z, List.mem_cons_of_mem _ hz, hb⟩
theorem nameT_noline {s : ByteArray} {sc : List Int} (h1 : NmOk s) (h2 : ScOk sc) {b : UInt8} (hb : b ∈ nameT s sc) : b.toNat ≠ 10 := by
  unfold nameT scTx at hb
  rcases List.mem_append.1 hb with hb | hb
  · exact (name_bytes h1 hb).2
  · split at hb
    · cases hb
    · rcases List.mem_cons.1 hb with rfl | hb
      · decide
      · rcases List.mem_append.1 hb with hb | hb
        · rcases join_mem hb with hb | ⟨t, ht, hb⟩
          · obtain rfl := List.mem_singleton.1 hb; decide
          · obtain ⟨y, hy, rfl⟩ := List.mem_map.1 ht
            obtain ⟨i, hi, rfl⟩ := List.getElem_of_mem hy
            have := h2.2 i hi
            exact (itoa_bytes (by omega) hb).2
        · obtain rfl := List.mem_singleton.1 hb; decide
end Go.Proofs.YteeepenncddnjaaDoor
end
section
namespace Go.Proofs.YteeepenncddnjaaDoor
open Go.RowKit Go.Proofs.YteeepenncddnjaaDoorW.PrintWords Go.Proofs.YteeepenncddnjaaDoorW.PrintLast Go.Proofs.YteeepenncddnjaaDoorW.PrintMore
set_option linter.unusedVariables false
set_option linter.unusedSimpArgs false

theorem nmB_false {s : ByteArray} (h : nmB s = false) : ¬ NmOk s := fun k => by rw [(nmB_iff _).2 k] at h; cases h
theorem pB_false {p : Prop} (h : pB p = false) : ¬ p := fun k => by rw [pB_iff.2 k] at h; cases h
abbrev kB : Kd Bd := Q.k60
def zBd : Bd := ⟨⟨#[]⟩, [], 0⟩
/-- What the three cells of a binding lead to. -/
structure BdIn (w : World) (x : Bd) (A1 : Option Addr) (c1 : Nat) : Prop where
  l1 : x.f1.length ≤ c1
  g1 : kI.C w A1 x.f1.length x.f1
theorem BdIn.below {w w1 : World} {x : Bd} {A1 : Option Addr} {c1 : Nat} (h : BdIn w x A1 c1) (hb : Below w.heap.size w w1) : BdIn w1 x A1 c1 := ⟨h.l1, Kd.C_below h.g1 hb⟩
/-- The binding at place i: its cells, and what they lead to. -/
theorem bd_at {w : World} {A : Option Addr} {n : Nat} {xs : List Bd} (h : kB.C w A n xs) (i : Nat) (h1 : i < xs.length) : ∃ ad A1 c1, A = some ad ∧ w.cell? (ad.add (i * 3)) = some (.string xs[i].f0) ∧ w.cell? ⟨(ad.add (i * 3)).block, (ad.add (i * 3)).off + 1, none⟩ = some (.slice A1 xs[i].f1.length c1) ∧ w.cell? ⟨(ad.add (i * 3)).block, (ad.add (i * 3)).off + 2, none⟩ = some (.int .i64 xs[i].f2) ∧ BdIn w xs[i] A1 c1 := by
  have hn := h.1
  obtain ⟨ad, c, e, _, hK, hc0⟩ := Kd.C_get h zBd (i : Int) (by omega) (by omega)
  rw [Int.toNat_natCast] at hK hc0
  rw [show xs.getD i zBd = xs[i] from by rw [List.getD_eq_getElem?_getD, List.getElem?_eq_getElem h1]; rfl] at hK
  have hc : ∀ j u, c[j]? = some u → w.cell? (ad.add (i * 3 + j)) = some u := hc0
  obtain ⟨A1, c1, rfl, l1, g1⟩ := Q.k60_open hK
  exact ⟨ad, A1, c1, e, hc 0 _ rfl, by rw [← add_field _ _ 1 (by omega)]; exact hc 1 _ rfl, by rw [← add_field _ _ 2 (by omega)]; exact hc 2 _ rfl, l1, g1⟩
/-- The three cells of a variable that holds a binding. -/
theorem bd_cells {w : World} {g : Nat} {v0 v1 v2 : Value} {t : TypeId} (h : w.heap[g]? = some (.cells #[v0, v1, v2] t (0, 0))) : w.cell? ⟨g, 0, none⟩ = some v0 ∧ w.cell? ⟨g, 1, none⟩ = some v1 ∧ w.cell? ⟨g, 2, none⟩ = some v2 :=
  ⟨(blk_cell h 0).trans rfl, (blk_cell h 1).trans rfl, (blk_cell h 2).trans rfl⟩
set_option maxHeartbeats 1000000 in
theorem indexFuncB_any (xs : List Bd) (p : Bd → Bool) (g : Nat) (lb : Array Value) (eg : ∀ args w, (callFunc g args).run Tryd.prog w = .ok (.enter g args) w) (A : Option Addr) (c : Nat) (w : World) (hr : kB.C w A xs.length xs) (hc : xs.length ≤ c)
    (hp : ∀ x, x ∈ xs → ∀ (A1 : Option Addr) (c1 : Nat) (W : World), Below w.heap.size w W → BdIn W x A1 c1 → Calls Tryd.prog g (#[.agg #[.string x.f0, .slice A1 x.f1.length c1, .int .i64 x.f2]] ++ lb) W (Ret W (.bool (p x)))) :
    Calls Tryd.prog 73 #[.slice A xs.length c, .func (.func g) #[] lb] w (Ret w (.int .i64 (fidx p xs))) := by
  have hmax := hr.2.1
  have HP := Lib.hid hp
  clear hp
  go_enter Tryd.func73, Tryd.ntmps73
  go_wp2_with fail
  go_loopg [5, 8] xs.length (fun kq v5 v8 w' => ∃ i : Nat, i ≤ xs.length ∧ xs.length - i ≤ kq ∧ v8 = .int .i64 i ∧ Aside0 (∀ j (h : j < xs.length), j < i → p xs[j] = false) ∧ Aside0 (Below w.heap.size w w'))
  case atStart => exact ⟨0, Nat.zero_le _, by omega, rfl, ⟨fun j _ h => absurd h (by omega)⟩, ⟨Below.refl _ _⟩⟩
  case round =>
    obtain ⟨i, hi, hg, rfl, HN, HW⟩ := hrel
    by_cases hlt : i < xs.length
    · obtain ⟨ad, A1, c1, e, g0, g1, g2, hk⟩ := bd_at (Kd.C_below hr HW.out) i hlt
      subst e
      have HC := Lib.hid (HP.out xs[i] (List.getElem_mem hlt) A1 c1 wr HW.out hk)
      clear hk
      generalize hb : p xs[i] = b at HC
      have HB := Lib.hid hb
      clear hb
      cases b with
      | true =>
        go_wp2_with fail
        refine HC.out.mono ?_
        rintro e w1 ⟨rfl, hb1⟩
        go_wp2_with fail
        go_ret
        exact ⟨ret_i (fidx_hit hlt HB.out (fun j hj => HN.out j _ hj)).symm, below_step HW.out hb1⟩
      | false =>
        go_wp2_with fail
        refine HC.out.mono ?_
        rintro e w1 ⟨rfl, hb1⟩
        go_wp2_with fail
        go_roundg (xs.length - (i + 1))
        case measure => omega
        case rel =>
          refine ⟨i + 1, by omega, Nat.le_refl _, by go_num, ⟨fun j hj hji => ?_⟩, ⟨below_step HW.out hb1⟩⟩
          rcases Nat.lt_or_ge j i with h | h
          · exact HN.out j hj h
          · obtain rfl : j = i := by omega
            exact HB.out
    · obtain rfl : i = xs.length := by omega
      go_wp2_with fail
      go_ret
      exact ⟨ret_i (fidx_miss (fun j hj => HN.out j hj hj)).symm, HW.out⟩
theorem containsFuncB_any (xs : List Bd) (p : Bd → Bool) (g : Nat) (lb : Array Value) (eg : ∀ args w, (callFunc g args).run Tryd.prog w = .ok (.enter g args) w) (A : Option Addr) (c : Nat) (w : World) (hr : kB.C w A xs.length xs) (hc : xs.length ≤ c)
    (hp : ∀ x, x ∈ xs → ∀ (A1 : Option Addr) (c1 : Nat) (W : World), Below w.heap.size w W → BdIn W x A1 c1 → Calls Tryd.prog g (#[.agg #[.string x.f0, .slice A1 x.f1.length c1, .int .i64 x.f2]] ++ lb) W (Ret W (.bool (p x)))) :
    Calls Tryd.prog 47 #[.slice A xs.length c, .func (.func g) #[] lb] w (Ret w (.bool (xs.any p))) := by
  have HD := Lib.hid (fidx_any p xs)
  have HC := Lib.hid (indexFuncB_any xs p g lb eg A c w hr hc hp)
  clear hr hc hp
  generalize fidx p xs = r at HD HC
  go_enter Tryd.func47, Tryd.ntmps47
  go_wp2_with fail
  refine HC.out.mono ?_
  rintro e w1 ⟨rfl, hb1⟩
  go_wp2_with fail
  go_ret
  exact ⟨ret_b HD.out, hb1⟩

def BdOk (b : Bd) : Prop := NmOk b.f0 ∧ ScOk b.f1 ∧ 1 ≤ b.f2 ∧ b.f2 ≤ 999
def sameB (b c : Bd) : Bool := decide (c.f0.toList = b.f0.toList) && decide (c.f1 = b.f1)
def BdAt (l : List Bd) (i : Nat) : Prop := ∀ (h : i < l.length), BdOk l[i] ∧ (l.take i).any (sameB l[i]) = false
def BdsOk (l : List Bd) : Prop := l.length ≤ 60 ∧ ∀ i, BdAt l i
theorem bindsValid1_any (x b : Bd) (A1 : Option Addr) (c1 : Nat) (B1 : Option Addr) (d1 : Nat) (g : Nat) (w : World) (hx : BdIn w x A1 c1) (hg : w.heap[g]? = some (.cells #[.string b.f0, .slice B1 b.f1.length d1, .int .i64 b.f2] 60 (0, 0))) (hb : BdIn w b B1 d1) :
    Calls Tryd.prog 48 #[.agg #[.string x.f0, .slice A1 x.f1.length c1, .int .i64 x.f2], .pointer (some ⟨g, 0, none⟩)] w (Ret w (.bool (sameB b x))) := by
  obtain ⟨p0, p1, p2⟩ := bd_cells hg
  have hn := below_new w (.cells #[.string x.f0, .slice A1 x.f1.length c1, .int .i64 x.f2] 60)
  have HC := Lib.hid (equalI_any x.f1 b.f1 A1 B1 c1 d1 _ (Kd.C_below hx.g1 hn) hx.l1 (Kd.C_below hb.g1 hn) hb.l1)
  have HN := Lib.hid hn
  have q0 := ck0 hn p0
  have q1 := ck0 hn p1
  clear hn hg p0 p1 p2 hx hb
  by_cases e : x.f0.toList = b.f0.toList
  · have t1 : (x.f0.toList == b.f0.toList) = true := by rw [e]; simp
    have HE := Lib.hid e
    clear e
    go_enter Tryd.func48, Tryd.ntmps48
    go_wp2_with fail
    refine HC.out.mono ?_
    rintro e w1 ⟨rfl, hb1⟩
    generalize hd : decide (x.f1 = b.f1) = z
    have HD := Lib.hid hd
    clear hd
    go_wp2_with fail
    go_ret
    exact ⟨ret_b (by rw [sameB, decide_eq_true HE.out, HD.out]; rfl), below_step HN.out hb1⟩
  · have t1 : (x.f0.toList == b.f0.toList) = false := by simpa using e
    have HE := Lib.hid e
    clear e
    go_enter Tryd.func48, Tryd.ntmps48
    go_wp2_with fail
    go_ret
    exact ⟨ret_b (by rw [sameB, decide_eq_false HE.out]; rfl), HN.out⟩
set_option maxHeartbeats 4000000 in
set_option maxRecDepth 100000 in
theorem implBinds_any (xs : List Bd) (A : Option Addr) (c : Nat) (w : World) (hr : kB.C w A xs.length xs) (hc : xs.length ≤ c) (hn : ∀ b, b ∈ xs → b.f0.size ≤ 140737488351232) :
    Calls Tryd.prog 19 #[.slice A xs.length c] w (Ret w (.bool (pB (BdsOk xs)))) := by
  have eg : ∀ args w, (callFunc 48 args).run Tryd.prog w = .ok (.enter 48 args) w := enters_of Tryd.func48 (by kernel_rfl) rfl
  have hmax := hr.2.1
  have EG := Lib.hid eg
  have NM := Lib.hid hn
  clear eg hn
  go_enter Tryd.func19, Tryd.ntmps19
  go_wp2_with fail
  go_loopg [3, 4, 7] xs.length (fun kq v3 v4 v7 w' => ∃ i : Nat, i ≤ xs.length ∧ xs.length - i ≤ kq ∧ v7 = .int .i64 i ∧ Aside0 (∀ j, j < i → BdAt xs j) ∧ Aside0 (Below w.heap.size w w'))
  case atStart => exact ⟨0, Nat.zero_le _, by omega, rfl, ⟨fun j h => absurd h (by omega)⟩, ⟨Below.refl _ _⟩⟩
  case round =>
    obtain ⟨i, hi, hg, rfl, HN, HW⟩ := hrel
    by_cases hlt : i < xs.length
    · obtain ⟨ad, A1, c1, e, g0, g1, g2, hk⟩ := bd_at (Kd.C_below hr HW.out) i hlt
      subst e
      have HK := Lib.hid hk
      have HX := Lib.hid (NM.out xs[i] (List.getElem_mem hlt))
      have hnw := below_new wr (.cells #[.string xs[i].f0, .slice A1 xs[i].f1.length c1, .int .i64 xs[i].f2] 60)
      have HNW := Lib.hid hnw
      clear hk hnw
      go_wp2_with fail
      refine (implName_any _ _ HX.out).mono ?_
      rintro e w1 ⟨rfl, hb1⟩
      obtain ⟨k0, b1⟩ := one_new hb1
      obtain ⟨p0, p1, p2⟩ := bd_cells k0
      have K0 := Lib.hid k0
      have B1 := Lib.hid b1
      clear k0 hb1 b1
      cases ht : nmB xs[i].f0 with
      | false =>
        have HT := Lib.hid (nmB_false ht)
        clear ht
        go_wp2_with fail
        go_ret
        exact ⟨ret_b (pB_no (fun h => HT.out (h.2 i hlt).1.1)), below_step HW.out B1.out⟩
      | true =>
        have HT := Lib.hid ((nmB_iff _).1 ht)
        clear ht
        go_wp2_with fail
        refine (scopesOk_any xs[i].f1 A1 c1 w1 (HK.out.below B1.out).g1 HK.out.l1).mono ?_
        rintro e w2 ⟨rfl, hb2⟩
        obtain ⟨q0, q1, q2⟩ := bd_cells (blk_below K0.out hb2)
        have B2 := Lib.hid (below_step B1.out hb2)
        have K2 := Lib.hid (blk_below K0.out hb2)
        clear hb2 p0 p1 p2
        cases hs : pB (ScOk xs[i].f1) with
        | false =>
          have HS := Lib.hid (pB_false hs)
          clear hs
          go_wp2_with fail
          go_ret
          exact ⟨ret_b (pB_no (fun h => HS.out (h.2 i hlt).1.2.1)), below_step HW.out B2.out⟩
        | true =>
          have HS := Lib.hid (pB_iff.1 hs)
          clear hs
          go_wp2_with fail
          refine (within_any _ _ _ _).mono ?_
          rintro e w3 ⟨rfl, hb3⟩
          have B3 := Lib.hid (below_step B2.out hb3)
          have K3 := Lib.hid (blk_below K2.out hb3)
          clear hb3 q0 q1 q2
          cases hd : decide (1 ≤ xs[i].f2 ∧ xs[i].f2 ≤ 999) with
          | false =>
            have HD := Lib.hid (of_decide_eq_false hd)
            clear hd
            go_wp2_with fail
            go_ret
            exact ⟨ret_b (pB_no (fun h => HD.out (h.2 i hlt).1.2.2)), below_step HW.out B3.out⟩
          | true =>
            have HD := Lib.hid (of_decide_eq_true hd)
            clear hd
            have HCF := Lib.hid (containsFuncB_any (xs.take i) (sameB xs[i]) 48 #[.pointer (some ⟨wr.heap.size, 0, none⟩)] EG.out (some ad) c w3 (Kd.C_take (Kd.C_below hr (below_step HW.out B3.out)) (by omega)) (by rw [List.length_take]; omega)
              (fun x hx A2 c2 W hb hin => bindsValid1_any x xs[i] A2 c2 A1 c1 wr.heap.size W hin (blk_below K3.out hb) ((HK.out.below B3.out).below hb)))
            rw [List.length_take, Nat.min_eq_left hi] at HCF
            go_wp2_with fail
            refine HCF.out.mono ?_
            rintro e w4 ⟨rfl, hb4⟩
            have B4 := Lib.hid (below_step B3.out hb4)
            clear hb4
            cases hz : (xs.take i).any (sameB xs[i]) with
            | true =>
              have HZ := Lib.hid hz
              clear hz
              go_wp2_with fail
              go_ret
              exact ⟨ret_b (pB_no (fun h => by have := (h.2 i hlt).2; rw [HZ.out] at this; cases this)), below_step HW.out B4.out⟩
            | false =>
              have HZ := Lib.hid hz
              clear hz
              go_wp2_with fail
              go_roundg (xs.length - (i + 1))
              case measure => omega
              case rel =>
                refine ⟨i + 1, by omega, Nat.le_refl _, by go_num, ⟨fun j hji => ?_⟩, ⟨below_step HW.out B4.out⟩⟩
                rcases Nat.lt_or_ge j i with h | h
                · exact HN.out j h
                · obtain rfl : j = i := by omega
                  exact fun _ => ⟨⟨HT.out, HS.out, HD.out⟩, HZ.out⟩
    · obtain rfl : i = xs.length := by omega
      by_cases h60 : xs.length ≤ 60
      · have t1 : decide ((xs.length : Int) ≤ 60) = true := decide_eq_true (by omega)
        have t2 : decide (xs.length ≤ 60) = true := decide_eq_true h60
        go_wp2_with fail
        go_ret
        exact ⟨ret_b (pB_yes ⟨h60, fun j h => HN.out j h h⟩), HW.out⟩
      · have t1 : decide ((xs.length : Int) ≤ 60) = false := decide_eq_false (by omega)
        have t2 : decide (xs.length ≤ 60) = false := decide_eq_false h60
        go_wp2_with fail
        go_ret
        exact ⟨ret_b (pB_no (fun h => h60 h.1)), HW.out⟩
end Go.Proofs.YteeepenncddnjaaDoor
end
section
namespace Go.Proofs.YteeepenncddnjaaDoor
open Go.RowKit Go.Proofs.YteeepenncddnjaaDoorW.PrintWords Go.Proofs.YteeepenncddnjaaDoorW.PrintLast Go.Proofs.YteeepenncddnjaaDoorW.PrintMore
set_option linter.unusedVariables false
set_option linter.unusedSimpArgs false
def IsName (x : Fm) : Prop := x.f0 = 1 ∧ FmOk x
def SmName (x y : Fm) : Prop := FmOk x ∧ FmOk y ∧ x.f0 = 1 ∧ x = y
end Go.Proofs.YteeepenncddnjaaDoor
end
section
namespace Go.Proofs.YteeepenncddnjaaDoor
set_option linter.unusedVariables false
set_option linter.unusedSimpArgs false
/-- Binding i of a list. -/
def bdAt (l : List Bd) (i : Nat) : Bd := l.getD i zBd
theorem bdAt_eq {l : List Bd} {i : Nat} (h : i < l.length) : bdAt l i = l[i] := by
  show l.getD i zBd = _
  rw [List.getD_eq_getElem?_getD, List.getElem?_eq_getElem h]; rfl
/-- A binding fits a name. -/
def fitsB (x : Fm) (b : Bd) : Bool := decide (b.f0.toList = x.f1.toList) && decide (∀ s, s ∈ b.f1 → s ∈ x.f3)
/-- The places of the bindings, of the first n, that fit. -/
def fitI (l : List Bd) (x : Fm) (n : Nat) : List Int := ((List.range n).filter (fun i => fitsB x (bdAt l i))).map (fun i : Nat => (i : Int))
abbrev fitL (l : List Bd) (x : Fm) : List Int := fitI l x l.length
/-- The scopes of the binding at place j are among those of the one at place m. -/
def subI (l : List Bd) (j m : Int) : Bool := decide (∀ s, s ∈ (bdAt l j.toNat).f1 → s ∈ (bdAt l m.toNat).f1)
/-- All of the first n places lead to bindings whose scopes are among those of place m. -/
def bestI (l : List Bd) (f : List Int) (m : Int) (n : Nat) : Bool := (f.take n).all (fun j => subI l j m)
abbrev bestL (l : List Bd) (f : List Int) (m : Int) : Bool := bestI l f m f.length
/-- The place of the closest binding, and how looking for it ends: 1 one, 2 many, 0 none. -/
def boundR (l : List Bd) (x : Fm) : Int × Int := match (fitL l x).find? (bestL l (fitL l x)) with
  | some m => (m, 1)
  | none => (0, if fitL l x = [] then 0 else 2)
noncomputable def findR (l : List Bd) (x : Fm) : Int × Int := if pB (BdsOk l ∧ IsName x) = true then (if (boundR l x).2 = 1 then ((bdAt l (boundR l x).1.toNat).f2, 1) else (0, (boundR l x).2)) else (0, 0)
noncomputable def fittingR (l : List Bd) (x : Fm) : List Int := if pB (BdsOk l ∧ IsName x) = true then fitL l x else []
noncomputable def hiddenR (l : List Bd) (x : Fm) : List Int := if pB (BdsOk l ∧ IsName x) = true then (if (boundR l x).2 = 1 then (fitL l x).filter (fun j => !(j == (boundR l x).1)) else []) else []
noncomputable def addBindR (l : List Bd) (x : Fm) (id : Int) : List Bd × Bool := if pB (BdsOk l ∧ IsName x) = true then (if pB (BdsOk (l ++ [⟨x.f1, x.f3, id⟩])) = true then (l ++ [⟨x.f1, x.f3, id⟩], true) else ([], false)) else ([], false)
/-- Two names stand for the same. -/
def refB (p q : Int × Int) (x y : Fm) : Bool := (p.2 == 1 && q.2 == 1 && p.1 == q.1) || (p.2 == 0 && q.2 == 0 && decide (x.f1.toList = y.f1.toList))
noncomputable def sameR (l : List Bd) (x y : Fm) : Bool := pB (BdsOk l ∧ IsName x ∧ IsName y) && refB (findR l x) (findR l y) x y
/-! Valid lists. -/
theorem sameB_iff {b c : Bd} : sameB b c = true ↔ c.f0.toList = b.f0.toList ∧ c.f1 = b.f1 := by
  unfold sameB; rw [Bool.and_eq_true, decide_eq_true_iff, decide_eq_true_iff]
theorem bdsOk_iff {l : List Bd} : BdsOk l ↔ l.length ≤ 60 ∧ (∀ b, b ∈ l → BdOk b) ∧ l.Pairwise (fun b c => ¬ (b.f0.toList = c.f0.toList ∧ b.f1 = c.f1)) := by
  unfold BdsOk BdAt
  constructor
  · rintro ⟨h1, h2⟩
    refine ⟨h1, fun b hb => ?_, List.pairwise_iff_getElem.2 (fun i j hi hj hij he => ?_)⟩
    · obtain ⟨i, hi, rfl⟩ := List.getElem_of_mem hb
      exact (h2 i hi).1
    · have h3 := (h2 j hj).2
      rw [List.any_eq_false] at h3
      exact h3 l[i] (List.mem_take_iff_getElem.2 ⟨i, by omega, rfl⟩) (sameB_iff.2 he)
  · rintro ⟨h1, h2, h3⟩
    refine ⟨h1, fun i hi => ⟨h2 _ (List.getElem_mem hi), ?_⟩⟩
    rw [List.any_eq_false]
    intro b hb he
    obtain ⟨j, hj, rfl⟩ := List.mem_take_iff_getElem.1 hb
    exact (List.pairwise_iff_getElem.1 h3) j i (by omega) hi (by omega) (sameB_iff.1 he)
/-- A binding that fits, and whose scopes hold those of all that fit. -/
structure Best (l : List Bd) (x : Fm) (b : Bd) : Prop where
  mem : b ∈ l
  fits : fitsB x b = true
  top : ∀ c, c ∈ l → fitsB x c = true → ∀ s, s ∈ c.f1 → s ∈ b.f1
end Go.Proofs.YteeepenncddnjaaDoor
end
section
namespace Go.Proofs.YteeepenncddnjaaDoor.Q
open Go.RowKit Go.Proofs.YteeepenncddnjaaDoorW.PrintWords Go.Proofs.YteeepenncddnjaaDoorW.PrintLast Go.Proofs.YteeepenncddnjaaDoorW.PrintMore
set_option linter.unusedVariables false
set_option linter.unusedSimpArgs false

end Go.Proofs.YteeepenncddnjaaDoor.Q
end
section
namespace Go.Proofs.YteeepenncddnjaaDoor.Q
open Go.RowKit Go.Proofs.YteeepenncddnjaaDoorW.PrintWords Go.Proofs.YteeepenncddnjaaDoorW.PrintLast Go.Proofs.YteeepenncddnjaaDoorW.PrintMore
attribute [local go_sem] max2_int min2_int max_two min_two max_three min_three max_four min_four   -- for this text's walks alone
set_option linter.unusedVariables false
set_option linter.unusedSimpArgs false

mutual
noncomputable def spec_BindsValid.l0 : Nat → List (S60) → Int → Option (Bool)
  | 0, _, _ => none
  | k + 1, x0, x3 => if x3 < (x0.length : Int) then (spec_BindsValid.j1 k x0 x3 (decide (x3 ≤ 60))) else (spec_BindsValid.j1 k x0 x3 false)
noncomputable def spec_BindsValid.j1 : Nat → List (S60) → Int → Bool → Option (Bool)
  | 0, _, _, _ => none
  | k + 1, x0, x3, x12 => if x12 = true then (if 0 ≤ x3 then (if x3 < (x0.length : Int) then ((spec_NameValid.f ((rd_T60 x0 x3).f0)).bind fun t167 => (if t167 = true then ((spec_l1Scopes.f ((rd_T60 x0 x3).f1)).bind fun t169 => (if t169 = true then (if ((rd_T60 x0 x3).f2) < 1 then (spec_BindsValid.j2 k x0 x3 true) else (spec_BindsValid.j2 k x0 x3 (decide (((rd_T60 x0 x3).f2) > 999)))) else (spec_BindsValid.j2 k x0 x3 true))) else (spec_BindsValid.j2 k x0 x3 true))) else (none)) else (none)) else (some (decide ((x0.length : Int) ≤ 60)))
noncomputable def spec_BindsValid.j2 : Nat → List (S60) → Int → Bool → Option (Bool)
  | 0, _, _, _ => none
  | k + 1, x0, x3, x46 => if x46 = true then (some false) else (spec_BindsValid.l1 k x0 x3 0)
noncomputable def spec_BindsValid.l1 : Nat → List (S60) → Int → Int → Option (Bool)
  | 0, _, _, _ => none
  | k + 1, x0, x3, x4 => if x4 < x3 then (if 0 ≤ x4 then (if x4 < (x0.length : Int) then (if 0 ≤ x3 then (if x3 < (x0.length : Int) then (if ((rd_T60 x0 x4).f0).toList = ((rd_T60 x0 x3).f0).toList then ((spec_l1Ints.f ((rd_T60 x0 x4).f1) ((rd_T60 x0 x3).f1)).bind fun t176 => (if t176 = true then (some false) else (spec_BindsValid.l1 k x0 x3 (wrap64 (x4 + 1))))) else (spec_BindsValid.l1 k x0 x3 (wrap64 (x4 + 1)))) else (none)) else (none)) else (none)) else (none)) else (spec_BindsValid.l0 k x0 (wrap64 (x3 + 1)))
end
noncomputable def spec_BindsValid.f (k : Nat) (l0 : List (S60)) : Option (Bool) := spec_BindsValid.l0 k l0 0
theorem spec_BindsValid.mono_l : ∀ k, (∀ y0 y1, LeO (spec_BindsValid.l0 k y0 y1) (spec_BindsValid.l0 (k + 1) y0 y1)) ∧ (∀ y0 y1 y2, LeO (spec_BindsValid.j1 k y0 y1 y2) (spec_BindsValid.j1 (k + 1) y0 y1 y2)) ∧ (∀ y0 y1 y2, LeO (spec_BindsValid.j2 k y0 y1 y2) (spec_BindsValid.j2 (k + 1) y0 y1 y2)) ∧ (∀ y0 y1 y2, LeO (spec_BindsValid.l1 k y0 y1 y2) (spec_BindsValid.l1 (k + 1) y0 y1 y2))
  | 0 => ⟨fun _ _ r h => by simp [spec_BindsValid.l0] at h, fun _ _ _ r h => by simp [spec_BindsValid.j1] at h, fun _ _ _ r h => by simp [spec_BindsValid.j2] at h, fun _ _ _ r h => by simp [spec_BindsValid.l1] at h⟩
  | k + 1 => by
    obtain ⟨ih0, ih1, ih2, ih3⟩ := spec_BindsValid.mono_l k
    refine ⟨?_, ?_, ?_, ?_⟩
    · intro y0 y1
      unfold spec_BindsValid.l0
      repeat' first
      | (with_reducible exact ih0 _ _)
      | (with_reducible exact ih1 _ _ _)
      | (with_reducible exact ih2 _ _ _)
      | (with_reducible exact ih3 _ _ _)
      | (with_reducible exact LeO.refl _)
      | (with_reducible exact LeO.none _)
      | (with_reducible refine LeO.ite ?_ ?_)
      | (with_reducible refine LeO.bind ?_ (fun _ => ?_))
      | exact ih0 _ _
      | exact ih1 _ _ _
      | exact ih2 _ _ _
      | exact ih3 _ _ _
      | exact LeO.none _
      | refine LeO.ite ?_ ?_
      | refine LeO.bind ?_ (fun _ => ?_)
    · intro y0 y1 y2
      unfold spec_BindsValid.j1
      repeat' first
      | (with_reducible exact ih0 _ _)
      | (with_reducible exact ih1 _ _ _)
      | (with_reducible exact ih2 _ _ _)
      | (with_reducible exact ih3 _ _ _)
      | (with_reducible exact LeO.refl _)
      | (with_reducible exact LeO.none _)
      | (with_reducible refine LeO.ite ?_ ?_)
      | (with_reducible refine LeO.bind ?_ (fun _ => ?_))
      | exact ih0 _ _
      | exact ih1 _ _ _
      | exact ih2 _ _ _
      | exact ih3 _ _ _
      | exact LeO.none _
      | refine LeO.ite ?_ ?_
      | refine LeO.bind ?_ (fun _ => ?_)
    · intro y0 y1 y2
      unfold spec_BindsValid.j2
      repeat' first
      | (with_reducible exact ih0 _ _)
      | (with_reducible exact ih1 _ _ _)
      | (with_reducible exact ih2 _ _ _)
      | (with_reducible exact ih3 _ _ _)
      | (with_reducible exact LeO.refl _)
      | (with_reducible exact LeO.none _)
      | (with_reducible refine LeO.ite ?_ ?_)
      | (with_reducible refine LeO.bind ?_ (fun _ => ?_))
      | exact ih0 _ _
      | exact ih1 _ _ _
      | exact ih2 _ _ _
      | exact ih3 _ _ _
      | exact LeO.none _
      | refine LeO.ite ?_ ?_
      | refine LeO.bind ?_ (fun _ => ?_)
    · intro y0 y1 y2
      unfold spec_BindsValid.l1
      repeat' first
      | (with_reducible exact ih0 _ _)
      | (with_reducible exact ih1 _ _ _)
      | (with_reducible exact ih2 _ _ _)
      | (with_reducible exact ih3 _ _ _)
      | (with_reducible exact LeO.refl _)
      | (with_reducible exact LeO.none _)
      | (with_reducible refine LeO.ite ?_ ?_)
      | (with_reducible refine LeO.bind ?_ (fun _ => ?_))
      | exact ih0 _ _
      | exact ih1 _ _ _
      | exact ih2 _ _ _
      | exact ih3 _ _ _
      | exact LeO.none _
      | refine LeO.ite ?_ ?_
      | refine LeO.bind ?_ (fun _ => ?_)
theorem spec_BindsValid.mono : ∀ a0 k, LeO (spec_BindsValid.f k a0) (spec_BindsValid.f (k + 1) a0) := by
  intro a0 k
  obtain ⟨ih0, ih1, ih2, ih3⟩ := spec_BindsValid.mono_l k
  unfold spec_BindsValid.f
  repeat' first
      | (with_reducible exact ih0 _ _)
      | (with_reducible exact ih1 _ _ _)
      | (with_reducible exact ih2 _ _ _)
      | (with_reducible exact ih3 _ _ _)
      | (with_reducible exact LeO.refl _)
      | (with_reducible exact LeO.none _)
      | (with_reducible refine LeO.ite ?_ ?_)
      | (with_reducible refine LeO.bind ?_ (fun _ => ?_))
      | exact ih0 _ _
      | exact ih1 _ _ _
      | exact ih2 _ _ _
      | exact ih3 _ _ _
      | exact LeO.none _
      | refine LeO.ite ?_ ?_
      | refine LeO.bind ?_ (fun _ => ?_)
noncomputable def spec_BindsValid.T9 : Bool × List (List Nat × List Nat) := (true, [([], []), ([], []), ([0, 1], [0, 1]), ([2], [2]), ([3], [3]), ([], []), ([], []), ([5, 6], [5, 6]), ([7], [7]), ([8], [8]), ([4, 9], [4, 9]), ([10], [10]), ([11], [11]), ([11], [11]), ([12, 13, 11], [11, 12, 13]), ([14, 11], [11, 14]), ([15, 11], [11, 15]), ([11], [11]), ([11], [11]), ([17, 18, 11], [11, 17, 18]), ([19, 11], [11, 19]), ([20, 11], [11, 20]), ([16, 21, 11, 11], [11, 16, 21]), ([11, 22], [11, 22])])
noncomputable def spec_BindsValid.B9 : List Nat := [0, 0, 3, 7, 15, 0, 0, 96, 224, 480, 1023, 2047, 4095, 4095, 16383, 32767, 65535, 4095, 4095, 397311, 921599, 1970175, 4194303, 8388607]
theorem spec_BindsValid.tab9 : rtab .any (opsOf Tryd.f21 9) = spec_BindsValid.T9 := by kernel_rfl
theorem spec_BindsValid.bits9 : waitsOk spec_BindsValid.T9.2 spec_BindsValid.B9 = true := by kernel_rfl
set_option maxHeartbeats 8000000 in
set_option maxRecDepth 100000 in
theorem spec_BindsValid.calls (k : Nat) (A0 : Option Addr) (c0 : Nat) (l0 : List (S60)) (r : Bool) (w : World) (hr0 : Kd.C k60 w A0 l0.length l0) (hc0 : l0.length ≤ c0) (h : spec_BindsValid.f k l0 = some r) :
    Calls Tryd.prog 21 #[.slice A0 l0.length c0] w fun e w' => e = .returned (.bool r) ∧ Below w.heap.size w w' := by
  have HR0 := Aside0.mk hr0
  have HC0 := Aside0.mk hc0
  clear hr0 hc0
  have HB := Aside0.mk (Below.refl w.heap.size w)
  have H : (spec_BindsValid.l0 k l0 0) = some r := h
  clear h
  have H' := Aside0.mk H
  clear H
  go_enter Tryd.func21, Tryd.ntmps21
  go_wp2
  go_loopg [3] k (fun kq v3 w' => ∃ (x3_1 : Int), v3 = .int .i64 x3_1 ∧ Aside0 (spec_BindsValid.l0 kq l0 x3_1 = some r) ∧ Aside0 (kq ≤ k) ∧ Aside0 (Below w.heap.size w w'))
  case atStart => exact ⟨(0), (by first | rfl | (simp; done) | (simp [*]; done)), H', ⟨Nat.le_refl _⟩, ⟨by repeat (first | (with_reducible first | exact HB.out | apply below_alloc | apply pw_below_drewN | apply below_drew1) | exact HB.out)⟩⟩
  case round =>
    clear H'
    obtain ⟨x3_1, rfl, HA, HK1, HB⟩ := hrel
    cases gk with
    | zero => exact absurd HA.out (by simp [spec_BindsValid.l0])
    | succ k1 =>
      have H := HA.out
      clear HA
      simp only [spec_BindsValid.l0] at H
      have HC2 := Aside0.mk H
      clear H
      go_upto_region 2 with (fail)
      go_cut [12] (fun v12 wc => ∃ (kq : Nat) (x12_1 : Bool), v12 = .bool x12_1 ∧ Aside0 (spec_BindsValid.j1 kq l0 x3_1 x12_1 = some r) ∧ Aside0 (kq ≤ k1) ∧ Aside0 (Below w.heap.size w wc))
      case first =>
        have H := HC2.out
        clear HC2
        by_cases c3 : x3_1 < (l0.length : Int)
        · rw [if_pos c3] at H
          have c3b0 : decide (x3_1 < (l0.length : Int)) = true := decide_eq_true c3
          clear c3
          (first | rw [c3b0] | (simp only [i64_w, i32_w]; rw [c3b0]) | skip)
          have H' := Aside0.mk H
          clear H
          go_wp2
          go_meet
          case rel => exact ⟨_, (decide (x3_1 ≤ 60)), (by first | rfl | (simp; done) | (simp [*]; done)), H', ⟨by have := HK1.out; first | omega | exact Nat.le_refl _⟩, ⟨by repeat (first | (with_reducible first | exact HB.out | apply below_alloc | apply pw_below_drewN | apply below_drew1) | exact HB.out)⟩⟩
        · rw [if_neg c3] at H
          have c3b0 : decide (x3_1 < (l0.length : Int)) = false := decide_eq_false c3
          clear c3
          (first | rw [c3b0] | (simp only [i64_w, i32_w]; rw [c3b0]) | skip)
          have H' := Aside0.mk H
          clear H
          go_wp2
          go_meet
          case rel => exact ⟨_, (false), (by first | rfl | (simp; done) | (simp [*]; done)), H', ⟨by have := HK1.out; first | omega | exact Nat.le_refl _⟩, ⟨by repeat (first | (with_reducible first | exact HB.out | apply below_alloc | apply pw_below_drewN | apply below_drew1) | exact HB.out)⟩⟩
      case rest =>
        clear HC2
        try clear c2
        try clear p2
        try clear c3
        try clear c3b0
        obtain ⟨kq, x12_1, rfl, HA, HJ1, HB⟩ := hcut
        cases kq with
        | zero => exact absurd HA.out (by simp [spec_BindsValid.j1])
        | succ kj1 =>
          have H := HA.out
          clear HA
          simp only [spec_BindsValid.j1] at H
          by_cases c4 : x12_1 = true
          · subst c4
            have H1 : (if 0 ≤ x3_1 then (if x3_1 < (l0.length : Int) then ((spec_NameValid.f ((rd_T60 l0 x3_1).f0)).bind fun t167 => (if t167 = true then ((spec_l1Scopes.f ((rd_T60 l0 x3_1).f1)).bind fun t169 => (if t169 = true then (if ((rd_T60 l0 x3_1).f2) < 1 then (spec_BindsValid.j2 kj1 l0 x3_1 true) else (spec_BindsValid.j2 kj1 l0 x3_1 (decide (((rd_T60 l0 x3_1).f2) > 999)))) else (spec_BindsValid.j2 kj1 l0 x3_1 true))) else (spec_BindsValid.j2 kj1 l0 x3_1 true))) else (none)) else (none)) = some r := by rw [if_pos rfl] at H; exact H
            clear H
            have H := H1
            clear H1
            have HC5 := Aside0.mk H
            clear H
            go_upto_region 4 with (fail)
            go_cut [46] (fun v46 wc => ∃ (kq : Nat) (x46_4 : Bool), v46 = .bool x46_4 ∧ Aside0 (spec_BindsValid.j2 kq l0 x3_1 x46_4 = some r) ∧ Aside0 (kq ≤ kj1) ∧ Aside0 (Below w.heap.size w wc))
            case first =>
              have H := HC5.out
              clear HC5
              by_cases c6 : 0 ≤ x3_1
              · rw [if_pos c6] at H
                have c6b0 : decide (0 ≤ x3_1) = true := decide_eq_true c6
                clear c6
                (first | rw [c6b0] | (simp only [i64_w, i32_w]; rw [c6b0]) | skip)
                by_cases c7 : x3_1 < (l0.length : Int)
                · rw [if_pos c7] at H
                  have c7b0 : decide (x3_1 < (l0.length : Int)) = true := decide_eq_true c7
                  clear c7
                  replace H := Option.bind_eq_some_iff.mp H
                  obtain ⟨t167, A80, H⟩ := H
                  replace H : (if t167 = true then ((spec_l1Scopes.f ((rd_T60 l0 x3_1).f1)).bind fun t169 => (if t169 = true then (if ((rd_T60 l0 x3_1).f2) < 1 then (spec_BindsValid.j2 kj1 l0 x3_1 true) else (spec_BindsValid.j2 kj1 l0 x3_1 (decide (((rd_T60 l0 x3_1).f2) > 999)))) else (spec_BindsValid.j2 kj1 l0 x3_1 true))) else (spec_BindsValid.j2 kj1 l0 x3_1 true)) = some r := H
                  have A8 := Aside0.mk A80
                  clear A80
                  by_cases c9 : t167 = true
                  · subst c9
                    have H1 : ((spec_l1Scopes.f ((rd_T60 l0 x3_1).f1)).bind fun t169 => (if t169 = true then (if ((rd_T60 l0 x3_1).f2) < 1 then (spec_BindsValid.j2 kj1 l0 x3_1 true) else (spec_BindsValid.j2 kj1 l0 x3_1 (decide (((rd_T60 l0 x3_1).f2) > 999)))) else (spec_BindsValid.j2 kj1 l0 x3_1 true))) = some r := by rw [if_pos rfl] at H; exact H
                    clear H
                    have H := H1
                    clear H1
                    replace H := Option.bind_eq_some_iff.mp H
                    obtain ⟨t169, A100, H⟩ := H
                    replace H : (if t169 = true then (if ((rd_T60 l0 x3_1).f2) < 1 then (spec_BindsValid.j2 kj1 l0 x3_1 true) else (spec_BindsValid.j2 kj1 l0 x3_1 (decide (((rd_T60 l0 x3_1).f2) > 999)))) else (spec_BindsValid.j2 kj1 l0 x3_1 true)) = some r := H
                    have A10 := Aside0.mk A100
                    clear A100
                    by_cases c11 : t169 = true
                    · subst c11
                      have H1 : (if ((rd_T60 l0 x3_1).f2) < 1 then (spec_BindsValid.j2 kj1 l0 x3_1 true) else (spec_BindsValid.j2 kj1 l0 x3_1 (decide (((rd_T60 l0 x3_1).f2) > 999)))) = some r := by rw [if_pos rfl] at H; exact H
                      clear H
                      have H := H1
                      clear H1
                      by_cases c12 : ((rd_T60 l0 x3_1).f2) < 1
                      · rw [if_pos c12] at H
                        have c12b0 : decide (((rd_T60 l0 x3_1).f2) < 1) = true := decide_eq_true c12
                        clear c12
                        have H' := Aside0.mk H
                        clear H
                        have p166 : 0 ≤ (x3_1 : Int) := of_decide_eq_true (by first | (with_reducible assumption) | assumption)
                        have q166 : x3_1 < (l0.length : Int) := of_decide_eq_true (by first | (with_reducible assumption) | assumption)
                        obtain ⟨ad166, A166_1, c166_1, e166, hx166_0, hx166_1, hx166_2, hl166_1, hi166_1⟩ := at_T60 HR0.out x3_1 p166 q166
                        cases e166
                        replace hx166_0 := (HB.out.cell (World.block_lt_of_cell? w _ hx166_0)).trans hx166_0
                        replace hx166_1 := (HB.out.cell (World.block_lt_of_cell? w _ hx166_1)).trans hx166_1
                        replace hx166_2 := (HB.out.cell (World.block_lt_of_cell? w _ hx166_2)).trans hx166_2
                        have HR166_1 := Aside0.mk hi166_1
                        have HC166_1 := Aside0.mk hl166_1
                        clear hi166_1 hl166_1
                        replace p166 := eq_true p166
                        replace q166 := eq_true q166
                        go_wp2_with (first | ((with_reducible refine gate_callee (f := 50) rfl ?_); refine goesL_ (some 20) rfl rfl Tryd.func50 (by kernel_rfl) rfl #[.string ((rd_T60 l0 x3_1).f0)] rfl (by (try simp only [List.map_toArray, List.map_cons, List.map_nil]); first | done | rfl | (simp only [List.length_drop, List.length_take]; rfl)) ?_; (with_reducible refine (spec_NameValid.calls ((rd_T60 l0 x3_1).f0) true _ A8.out).mono ?_); rintro e w13 ⟨rfl, hb⟩; refine ⟨_, rfl, ?_⟩; have n0_ := Aside0.mk (below_step (by repeat (first | (with_reducible first | exact HB.out | apply below_alloc | apply pw_below_drewN | apply below_drew1) | exact HB.out)) hb); clear HB; have HB := n0_; clear n0_; (try clear hb); (try clear hb2); (try clear hk); (try clear hi); have p168 : 0 ≤ (x3_1 : Int) := of_decide_eq_true (by first | (with_reducible assumption) | assumption); have q168 : x3_1 < (l0.length : Int) := of_decide_eq_true (by first | (with_reducible assumption) | assumption); obtain ⟨ad168, A168_1, c168_1, e168, hx168_0, hx168_1, hx168_2, hl168_1, hi168_1⟩ := at_T60 HR0.out x3_1 p168 q168; obtain rfl : ad166 = ad168 := (by injection e168); replace hx168_0 := (HB.out.cell (World.block_lt_of_cell? w _ hx168_0)).trans hx168_0; replace hx168_1 := (HB.out.cell (World.block_lt_of_cell? w _ hx168_1)).trans hx168_1; replace hx168_2 := (HB.out.cell (World.block_lt_of_cell? w _ hx168_2)).trans hx168_2; have HR168_1 := Aside0.mk hi168_1; have HC168_1 := Aside0.mk hl168_1; clear hi168_1 hl168_1; replace p168 := eq_true p168; replace q168 := eq_true q168) | (go_at_call 51; (with_reducible refine (spec_l1Scopes.calls _ _ ((rd_T60 l0 x3_1).f1) true _ ?side1 ?side2 A10.out).mono ?_); (case side1 => repeat (first | exact (Kd.C_below HR168_1.out HB.out) | (with_reducible refine Kd.C_alloc ?_ _) | (with_reducible refine Kd.C_drewN ?_ _) | (with_reducible refine Kd.C_drew ?_))); (case side2 => exact HC168_1.out); rintro e w14 ⟨rfl, hb⟩; have n0_ := Aside0.mk (below_step (by repeat (first | (with_reducible first | exact HB.out | apply below_alloc | apply pw_below_drewN | apply below_drew1) | exact HB.out)) hb); clear HB; have HB := n0_; clear n0_; (try clear hb); (try clear hb2); (try clear hk); (try clear hi); have p170 : 0 ≤ (x3_1 : Int) := of_decide_eq_true (by first | (with_reducible assumption) | assumption); have q170 : x3_1 < (l0.length : Int) := of_decide_eq_true (by first | (with_reducible assumption) | assumption); obtain ⟨ad170, A170_1, c170_1, e170, hx170_0, hx170_1, hx170_2, hl170_1, hi170_1⟩ := at_T60 HR0.out x3_1 p170 q170; obtain rfl : ad166 = ad170 := (by injection e170); replace hx170_0 := (HB.out.cell (World.block_lt_of_cell? w _ hx170_0)).trans hx170_0; replace hx170_1 := (HB.out.cell (World.block_lt_of_cell? w _ hx170_1)).trans hx170_1; replace hx170_2 := (HB.out.cell (World.block_lt_of_cell? w _ hx170_2)).trans hx170_2; have HR170_1 := Aside0.mk hi170_1; have HC170_1 := Aside0.mk hl170_1; clear hi170_1 hl170_1; replace p170 := eq_true p170; replace q170 := eq_true q170))
                        go_meet
                        case rel => exact ⟨_, (true), (by first | rfl | (simp; done) | (simp [*]; done)), H', ⟨by have := HK1.out; have := HJ1.out; first | omega | exact Nat.le_refl _⟩, ⟨by repeat (first | (with_reducible first | exact HB.out | apply below_alloc | apply pw_below_drewN | apply below_drew1) | exact HB.out)⟩⟩
                      · rw [if_neg c12] at H
                        have c12b0 : decide (((rd_T60 l0 x3_1).f2) < 1) = false := decide_eq_false c12
                        clear c12
                        have H' := Aside0.mk H
                        clear H
                        have p166 : 0 ≤ (x3_1 : Int) := of_decide_eq_true (by first | (with_reducible assumption) | assumption)
                        have q166 : x3_1 < (l0.length : Int) := of_decide_eq_true (by first | (with_reducible assumption) | assumption)
                        obtain ⟨ad166, A166_1, c166_1, e166, hx166_0, hx166_1, hx166_2, hl166_1, hi166_1⟩ := at_T60 HR0.out x3_1 p166 q166
                        cases e166
                        replace hx166_0 := (HB.out.cell (World.block_lt_of_cell? w _ hx166_0)).trans hx166_0
                        replace hx166_1 := (HB.out.cell (World.block_lt_of_cell? w _ hx166_1)).trans hx166_1
                        replace hx166_2 := (HB.out.cell (World.block_lt_of_cell? w _ hx166_2)).trans hx166_2
                        have HR166_1 := Aside0.mk hi166_1
                        have HC166_1 := Aside0.mk hl166_1
                        clear hi166_1 hl166_1
                        replace p166 := eq_true p166
                        replace q166 := eq_true q166
                        go_wp2_with (first | ((with_reducible refine gate_callee (f := 50) rfl ?_); refine goesL_ (some 20) rfl rfl Tryd.func50 (by kernel_rfl) rfl #[.string ((rd_T60 l0 x3_1).f0)] rfl (by (try simp only [List.map_toArray, List.map_cons, List.map_nil]); first | done | rfl | (simp only [List.length_drop, List.length_take]; rfl)) ?_; (with_reducible refine (spec_NameValid.calls ((rd_T60 l0 x3_1).f0) true _ A8.out).mono ?_); rintro e w15 ⟨rfl, hb⟩; refine ⟨_, rfl, ?_⟩; have n0_ := Aside0.mk (below_step (by repeat (first | (with_reducible first | exact HB.out | apply below_alloc | apply pw_below_drewN | apply below_drew1) | exact HB.out)) hb); clear HB; have HB := n0_; clear n0_; (try clear hb); (try clear hb2); (try clear hk); (try clear hi); have p168 : 0 ≤ (x3_1 : Int) := of_decide_eq_true (by first | (with_reducible assumption) | assumption); have q168 : x3_1 < (l0.length : Int) := of_decide_eq_true (by first | (with_reducible assumption) | assumption); obtain ⟨ad168, A168_1, c168_1, e168, hx168_0, hx168_1, hx168_2, hl168_1, hi168_1⟩ := at_T60 HR0.out x3_1 p168 q168; obtain rfl : ad166 = ad168 := (by injection e168); replace hx168_0 := (HB.out.cell (World.block_lt_of_cell? w _ hx168_0)).trans hx168_0; replace hx168_1 := (HB.out.cell (World.block_lt_of_cell? w _ hx168_1)).trans hx168_1; replace hx168_2 := (HB.out.cell (World.block_lt_of_cell? w _ hx168_2)).trans hx168_2; have HR168_1 := Aside0.mk hi168_1; have HC168_1 := Aside0.mk hl168_1; clear hi168_1 hl168_1; replace p168 := eq_true p168; replace q168 := eq_true q168) | (go_at_call 51; (with_reducible refine (spec_l1Scopes.calls _ _ ((rd_T60 l0 x3_1).f1) true _ ?side1 ?side2 A10.out).mono ?_); (case side1 => repeat (first | exact (Kd.C_below HR168_1.out HB.out) | (with_reducible refine Kd.C_alloc ?_ _) | (with_reducible refine Kd.C_drewN ?_ _) | (with_reducible refine Kd.C_drew ?_))); (case side2 => exact HC168_1.out); rintro e w16 ⟨rfl, hb⟩; have n0_ := Aside0.mk (below_step (by repeat (first | (with_reducible first | exact HB.out | apply below_alloc | apply pw_below_drewN | apply below_drew1) | exact HB.out)) hb); clear HB; have HB := n0_; clear n0_; (try clear hb); (try clear hb2); (try clear hk); (try clear hi); have p170 : 0 ≤ (x3_1 : Int) := of_decide_eq_true (by first | (with_reducible assumption) | assumption); have q170 : x3_1 < (l0.length : Int) := of_decide_eq_true (by first | (with_reducible assumption) | assumption); obtain ⟨ad170, A170_1, c170_1, e170, hx170_0, hx170_1, hx170_2, hl170_1, hi170_1⟩ := at_T60 HR0.out x3_1 p170 q170; obtain rfl : ad166 = ad170 := (by injection e170); replace hx170_0 := (HB.out.cell (World.block_lt_of_cell? w _ hx170_0)).trans hx170_0; replace hx170_1 := (HB.out.cell (World.block_lt_of_cell? w _ hx170_1)).trans hx170_1; replace hx170_2 := (HB.out.cell (World.block_lt_of_cell? w _ hx170_2)).trans hx170_2; have HR170_1 := Aside0.mk hi170_1; have HC170_1 := Aside0.mk hl170_1; clear hi170_1 hl170_1; replace p170 := eq_true p170; replace q170 := eq_true q170; have p171 : 0 ≤ (x3_1 : Int) := of_decide_eq_true (by first | (with_reducible assumption) | assumption); have q171 : x3_1 < (l0.length : Int) := of_decide_eq_true (by first | (with_reducible assumption) | assumption); obtain ⟨ad171, A171_1, c171_1, e171, hx171_0, hx171_1, hx171_2, hl171_1, hi171_1⟩ := at_T60 HR0.out x3_1 p171 q171; obtain rfl : ad166 = ad171 := (by injection e171); replace hx171_0 := (HB.out.cell (World.block_lt_of_cell? w _ hx171_0)).trans hx171_0; replace hx171_1 := (HB.out.cell (World.block_lt_of_cell? w _ hx171_1)).trans hx171_1; replace hx171_2 := (HB.out.cell (World.block_lt_of_cell? w _ hx171_2)).trans hx171_2; have HR171_1 := Aside0.mk hi171_1; have HC171_1 := Aside0.mk hl171_1; clear hi171_1 hl171_1; replace p171 := eq_true p171; replace q171 := eq_true q171; have ea_ := Option.some.inj (hx170_1.symm.trans hx171_1); injection ea_ with ea_ en_ ec_; subst ea_; subst ec_; clear en_))
                        go_meet
                        case rel => exact ⟨_, (decide (((rd_T60 l0 x3_1).f2) > 999)), (by first | rfl | (simp; done) | (simp [*]; done)), H', ⟨by have := HK1.out; have := HJ1.out; first | omega | exact Nat.le_refl _⟩, ⟨by repeat (first | (with_reducible first | exact HB.out | apply below_alloc | apply pw_below_drewN | apply below_drew1) | exact HB.out)⟩⟩
                    · replace c11 := Bool.eq_false_iff.mpr c11
                      subst c11
                      have H1 : (spec_BindsValid.j2 kj1 l0 x3_1 true) = some r := by rw [if_neg (show ¬ (false = true) by decide)] at H; exact H
                      clear H
                      have H := H1
                      clear H1
                      have H' := Aside0.mk H
                      clear H
                      have p166 : 0 ≤ (x3_1 : Int) := of_decide_eq_true (by first | (with_reducible assumption) | assumption)
                      have q166 : x3_1 < (l0.length : Int) := of_decide_eq_true (by first | (with_reducible assumption) | assumption)
                      obtain ⟨ad166, A166_1, c166_1, e166, hx166_0, hx166_1, hx166_2, hl166_1, hi166_1⟩ := at_T60 HR0.out x3_1 p166 q166
                      cases e166
                      replace hx166_0 := (HB.out.cell (World.block_lt_of_cell? w _ hx166_0)).trans hx166_0
                      replace hx166_1 := (HB.out.cell (World.block_lt_of_cell? w _ hx166_1)).trans hx166_1
                      replace hx166_2 := (HB.out.cell (World.block_lt_of_cell? w _ hx166_2)).trans hx166_2
                      have HR166_1 := Aside0.mk hi166_1
                      have HC166_1 := Aside0.mk hl166_1
                      clear hi166_1 hl166_1
                      replace p166 := eq_true p166
                      replace q166 := eq_true q166
                      go_wp2_with (first | ((with_reducible refine gate_callee (f := 50) rfl ?_); refine goesL_ (some 20) rfl rfl Tryd.func50 (by kernel_rfl) rfl #[.string ((rd_T60 l0 x3_1).f0)] rfl (by (try simp only [List.map_toArray, List.map_cons, List.map_nil]); first | done | rfl | (simp only [List.length_drop, List.length_take]; rfl)) ?_; (with_reducible refine (spec_NameValid.calls ((rd_T60 l0 x3_1).f0) true _ A8.out).mono ?_); rintro e w17 ⟨rfl, hb⟩; refine ⟨_, rfl, ?_⟩; have n0_ := Aside0.mk (below_step (by repeat (first | (with_reducible first | exact HB.out | apply below_alloc | apply pw_below_drewN | apply below_drew1) | exact HB.out)) hb); clear HB; have HB := n0_; clear n0_; (try clear hb); (try clear hb2); (try clear hk); (try clear hi); have p168 : 0 ≤ (x3_1 : Int) := of_decide_eq_true (by first | (with_reducible assumption) | assumption); have q168 : x3_1 < (l0.length : Int) := of_decide_eq_true (by first | (with_reducible assumption) | assumption); obtain ⟨ad168, A168_1, c168_1, e168, hx168_0, hx168_1, hx168_2, hl168_1, hi168_1⟩ := at_T60 HR0.out x3_1 p168 q168; obtain rfl : ad166 = ad168 := (by injection e168); replace hx168_0 := (HB.out.cell (World.block_lt_of_cell? w _ hx168_0)).trans hx168_0; replace hx168_1 := (HB.out.cell (World.block_lt_of_cell? w _ hx168_1)).trans hx168_1; replace hx168_2 := (HB.out.cell (World.block_lt_of_cell? w _ hx168_2)).trans hx168_2; have HR168_1 := Aside0.mk hi168_1; have HC168_1 := Aside0.mk hl168_1; clear hi168_1 hl168_1; replace p168 := eq_true p168; replace q168 := eq_true q168) | (go_at_call 51; (with_reducible refine (spec_l1Scopes.calls _ _ ((rd_T60 l0 x3_1).f1) false _ ?side1 ?side2 A10.out).mono ?_); (case side1 => repeat (first | exact (Kd.C_below HR168_1.out HB.out) | (with_reducible refine Kd.C_alloc ?_ _) | (with_reducible refine Kd.C_drewN ?_ _) | (with_reducible refine Kd.C_drew ?_))); (case side2 => exact HC168_1.out); rintro e w18 ⟨rfl, hb⟩; have n0_ := Aside0.mk (below_step (by repeat (first | (with_reducible first | exact HB.out | apply below_alloc | apply pw_below_drewN | apply below_drew1) | exact HB.out)) hb); clear HB; have HB := n0_; clear n0_; (try clear hb); (try clear hb2); (try clear hk); (try clear hi)))
                      go_meet
                      case rel => exact ⟨_, (true), (by first | rfl | (simp; done) | (simp [*]; done)), H', ⟨by have := HK1.out; have := HJ1.out; first | omega | exact Nat.le_refl _⟩, ⟨by repeat (first | (with_reducible first | exact HB.out | apply below_alloc | apply pw_below_drewN | apply below_drew1) | exact HB.out)⟩⟩
                  · replace c9 := Bool.eq_false_iff.mpr c9
                    subst c9
                    have H1 : (spec_BindsValid.j2 kj1 l0 x3_1 true) = some r := by rw [if_neg (show ¬ (false = true) by decide)] at H; exact H
                    clear H
                    have H := H1
                    clear H1
                    have H' := Aside0.mk H
                    clear H
                    have p166 : 0 ≤ (x3_1 : Int) := of_decide_eq_true (by first | (with_reducible assumption) | assumption)
                    have q166 : x3_1 < (l0.length : Int) := of_decide_eq_true (by first | (with_reducible assumption) | assumption)
                    obtain ⟨ad166, A166_1, c166_1, e166, hx166_0, hx166_1, hx166_2, hl166_1, hi166_1⟩ := at_T60 HR0.out x3_1 p166 q166
                    cases e166
                    replace hx166_0 := (HB.out.cell (World.block_lt_of_cell? w _ hx166_0)).trans hx166_0
                    replace hx166_1 := (HB.out.cell (World.block_lt_of_cell? w _ hx166_1)).trans hx166_1
                    replace hx166_2 := (HB.out.cell (World.block_lt_of_cell? w _ hx166_2)).trans hx166_2
                    have HR166_1 := Aside0.mk hi166_1
                    have HC166_1 := Aside0.mk hl166_1
                    clear hi166_1 hl166_1
                    replace p166 := eq_true p166
                    replace q166 := eq_true q166
                    go_wp2_with (first | ((with_reducible refine gate_callee (f := 50) rfl ?_); refine goesL_ (some 20) rfl rfl Tryd.func50 (by kernel_rfl) rfl #[.string ((rd_T60 l0 x3_1).f0)] rfl (by (try simp only [List.map_toArray, List.map_cons, List.map_nil]); first | done | rfl | (simp only [List.length_drop, List.length_take]; rfl)) ?_; (with_reducible refine (spec_NameValid.calls ((rd_T60 l0 x3_1).f0) false _ A8.out).mono ?_); rintro e w19 ⟨rfl, hb⟩; refine ⟨_, rfl, ?_⟩; have n0_ := Aside0.mk (below_step (by repeat (first | (with_reducible first | exact HB.out | apply below_alloc | apply pw_below_drewN | apply below_drew1) | exact HB.out)) hb); clear HB; have HB := n0_; clear n0_; (try clear hb); (try clear hb2); (try clear hk); (try clear hi)))
                    go_meet
                    case rel => exact ⟨_, (true), (by first | rfl | (simp; done) | (simp [*]; done)), H', ⟨by have := HK1.out; have := HJ1.out; first | omega | exact Nat.le_refl _⟩, ⟨by repeat (first | (with_reducible first | exact HB.out | apply below_alloc | apply pw_below_drewN | apply below_drew1) | exact HB.out)⟩⟩
                · rw [if_neg c7] at H
                  exact absurd H (by simp)
              · rw [if_neg c6] at H
                exact absurd H (by simp)
            case rest =>
              clear HC5
              try clear c1
              try clear p1
              try clear q1
              try clear hx1
              try clear c2
              try clear p2
              try clear c3
              try clear c3b0
              try clear c4
              try clear c5
              try clear c6
              try clear c6b0
              try clear c7
              try clear c7b0
              try clear c9
              try clear c11
              try clear c12
              try clear c12b0
              try clear c16
              try clear p16
              try clear q16
              try clear hx16
              try clear c17
              try clear p17
              try clear q17
              try clear hx17
              try clear hx166_0
              try clear hx166_1
              try clear hx166_2
              try clear hx168_0
              try clear hx168_1
              try clear hx168_2
              try clear hx170_0
              try clear hx170_1
              try clear hx170_2
              try clear hx171_0
              try clear hx171_1
              try clear hx171_2
              try clear p166
              try clear p168
              try clear p170
              try clear p171
              try clear p2
              try clear q166
              try clear q168
              try clear q170
              try clear q171
              obtain ⟨kq, x46_4, rfl, HA, HJ4, HB⟩ := hcut
              cases kq with
              | zero => exact absurd HA.out (by simp [spec_BindsValid.j2])
              | succ kj4 =>
                have H := HA.out
                clear HA
                simp only [spec_BindsValid.j2] at H
                by_cases c20 : x46_4 = true
                · subst c20
                  have H1 : (some false) = some r := by rw [if_pos rfl] at H; exact H
                  clear H
                  have H := H1
                  clear H1
                  obtain rfl := Option.some.inj H
                  go_wp2
                  go_ret
                  exact ⟨by first | rfl | (simp [errW_none, errW_some] <;> rfl) | (simp [*, errW_none, errW_some] <;> rfl), by repeat (first | (with_reducible first | exact HB.out | apply below_alloc | apply pw_below_drewN | apply below_drew1) | exact HB.out)⟩
                · replace c20 := Bool.eq_false_iff.mpr c20
                  subst c20
                  have H1 : (spec_BindsValid.l1 kj4 l0 x3_1 0) = some r := by rw [if_neg (show ¬ (false = true) by decide)] at H; exact H
                  clear H
                  have H := H1
                  clear H1
                  have H' := Aside0.mk H
                  clear H
                  go_wp2
                  go_loopg [4] kj4 (fun kq v4 w' => ∃ (x4_4 : Int), v4 = .int .i64 x4_4 ∧ Aside0 (spec_BindsValid.l1 kq l0 x3_1 x4_4 = some r) ∧ Aside0 (kq ≤ kj4) ∧ Aside0 (Below w.heap.size w w'))
                  case atStart => exact ⟨(0), (by first | rfl | (simp; done) | (simp [*]; done)), H', ⟨Nat.le_refl _⟩, ⟨by repeat (first | (with_reducible first | exact HB.out | apply below_alloc | apply pw_below_drewN | apply below_drew1) | exact HB.out)⟩⟩
                  case round =>
                    clear H'
                    try clear c1
                    try clear p1
                    try clear q1
                    try clear hx1
                    try clear c2
                    try clear p2
                    try clear c3
                    try clear c3b0
                    try clear c4
                    try clear c5
                    try clear c6
                    try clear c6b0
                    try clear c7
                    try clear c7b0
                    try clear c9
                    try clear c11
                    try clear c12
                    try clear c12b0
                    try clear c16
                    try clear p16
                    try clear q16
                    try clear hx16
                    try clear c17
                    try clear p17
                    try clear q17
                    try clear hx17
                    try clear c20
                    try clear hx166_0
                    try clear hx166_1
                    try clear hx166_2
                    try clear hx168_0
                    try clear hx168_1
                    try clear hx168_2
                    try clear hx170_0
                    try clear hx170_1
                    try clear hx170_2
                    try clear hx171_0
                    try clear hx171_1
                    try clear hx171_2
                    try clear p1
                    try clear p16
                    try clear p166
                    try clear p168
                    try clear p17
                    try clear p170
                    try clear p171
                    try clear p2
                    try clear q1
                    try clear q16
                    try clear q166
                    try clear q168
                    try clear q17
                    try clear q170
                    try clear q171
                    obtain ⟨x4_4, rfl, HA, HK4, HB⟩ := hrel
                    cases gk with
                    | zero => exact absurd HA.out (by simp [spec_BindsValid.l1])
                    | succ k4 =>
                      have H := HA.out
                      clear HA
                      simp only [spec_BindsValid.l1] at H
                      by_cases c21 : x4_4 < x3_1
                      · rw [if_pos c21] at H
                        have c21b0 : decide (x4_4 < x3_1) = true := decide_eq_true c21
                        clear c21
                        by_cases c22 : 0 ≤ x4_4
                        · rw [if_pos c22] at H
                          have c22b0 : decide (0 ≤ x4_4) = true := decide_eq_true c22
                          clear c22
                          by_cases c23 : x4_4 < (l0.length : Int)
                          · rw [if_pos c23] at H
                            have c23b0 : decide (x4_4 < (l0.length : Int)) = true := decide_eq_true c23
                            clear c23
                            by_cases c24 : 0 ≤ x3_1
                            · rw [if_pos c24] at H
                              have c24b0 : decide (0 ≤ x3_1) = true := decide_eq_true c24
                              clear c24
                              by_cases c25 : x3_1 < (l0.length : Int)
                              · rw [if_pos c25] at H
                                have c25b0 : decide (x3_1 < (l0.length : Int)) = true := decide_eq_true c25
                                clear c25
                                by_cases c26 : ((rd_T60 l0 x4_4).f0).toList = ((rd_T60 l0 x3_1).f0).toList
                                · rw [if_pos c26] at H
                                  have c26b0 : (((rd_T60 l0 x4_4).f0).toList == ((rd_T60 l0 x3_1).f0).toList) = true := beq_iff_eq.mpr c26
                                  have c26b1 : (((rd_T60 l0 x4_4).f0).toList != ((rd_T60 l0 x3_1).f0).toList) = false := bne_eq_false_iff_eq.mpr c26
                                  clear c26
                                  replace H := Option.bind_eq_some_iff.mp H
                                  obtain ⟨t176, A270, H⟩ := H
                                  replace H : (if t176 = true then (some false) else (spec_BindsValid.l1 k4 l0 x3_1 (wrap64 (x4_4 + 1)))) = some r := H
                                  have A27 := Aside0.mk A270
                                  clear A270
                                  by_cases c28 : t176 = true
                                  · subst c28
                                    have H1 : (some false) = some r := by rw [if_pos rfl] at H; exact H
                                    clear H
                                    have H := H1
                                    clear H1
                                    obtain rfl := Option.some.inj H
                                    try go_wp2
                                    have n0_ := Aside0.mk (below_drew1 HB.out)
                                    clear HB
                                    have HB := n0_
                                    clear n0_
                                    have p172 : 0 ≤ (x4_4 : Int) := of_decide_eq_true (by first | (with_reducible assumption) | assumption)
                                    have q172 : x4_4 < (l0.length : Int) := of_decide_eq_true (by first | (with_reducible assumption) | assumption)
                                    obtain ⟨ad172, A172_1, c172_1, e172, hx172_0, hx172_1, hx172_2, hl172_1, hi172_1⟩ := at_T60 HR0.out x4_4 p172 q172
                                    have hw172_2 := hx172_2
                                    have hw172_1 := hx172_1
                                    have hw172_0 := hx172_0
                                    cases e172
                                    replace hx172_0 := (HB.out.cell (World.block_lt_of_cell? w _ hx172_0)).trans hx172_0
                                    replace hx172_1 := (HB.out.cell (World.block_lt_of_cell? w _ hx172_1)).trans hx172_1
                                    replace hx172_2 := (HB.out.cell (World.block_lt_of_cell? w _ hx172_2)).trans hx172_2
                                    have HR172_1 := Aside0.mk hi172_1
                                    have HC172_1 := Aside0.mk hl172_1
                                    clear hi172_1 hl172_1
                                    replace p172 := eq_true p172
                                    replace q172 := eq_true q172
                                    have p173 : 0 ≤ (x3_1 : Int) := of_decide_eq_true (by first | (with_reducible assumption) | assumption)
                                    have q173 : x3_1 < (l0.length : Int) := of_decide_eq_true (by first | (with_reducible assumption) | assumption)
                                    obtain ⟨ad173, A173_1, c173_1, e173, hx173_0, hx173_1, hx173_2, hl173_1, hi173_1⟩ := at_T60 HR0.out x3_1 p173 q173
                                    have hw173_2 := hx173_2
                                    have hw173_1 := hx173_1
                                    have hw173_0 := hx173_0
                                    obtain rfl : ad172 = ad173 := (by injection e173)
                                    replace hx173_0 := (HB.out.cell (World.block_lt_of_cell? w _ hx173_0)).trans hx173_0
                                    replace hx173_1 := (HB.out.cell (World.block_lt_of_cell? w _ hx173_1)).trans hx173_1
                                    replace hx173_2 := (HB.out.cell (World.block_lt_of_cell? w _ hx173_2)).trans hx173_2
                                    have HR173_1 := Aside0.mk hi173_1
                                    have HC173_1 := Aside0.mk hl173_1
                                    clear hi173_1 hl173_1
                                    replace p173 := eq_true p173
                                    replace q173 := eq_true q173
                                    have p174 : 0 ≤ (x4_4 : Int) := of_decide_eq_true (by first | (with_reducible assumption) | assumption)
                                    have q174 : x4_4 < (l0.length : Int) := of_decide_eq_true (by first | (with_reducible assumption) | assumption)
                                    obtain ⟨ad174, A174_1, c174_1, e174, hx174_0, hx174_1, hx174_2, hl174_1, hi174_1⟩ := at_T60 HR0.out x4_4 p174 q174
                                    have hw174_2 := hx174_2
                                    have hw174_1 := hx174_1
                                    have hw174_0 := hx174_0
                                    obtain rfl : ad172 = ad174 := (by injection e174)
                                    replace hx174_0 := (HB.out.cell (World.block_lt_of_cell? w _ hx174_0)).trans hx174_0
                                    replace hx174_1 := (HB.out.cell (World.block_lt_of_cell? w _ hx174_1)).trans hx174_1
                                    replace hx174_2 := (HB.out.cell (World.block_lt_of_cell? w _ hx174_2)).trans hx174_2
                                    have HR174_1 := Aside0.mk hi174_1
                                    have HC174_1 := Aside0.mk hl174_1
                                    clear hi174_1 hl174_1
                                    replace p174 := eq_true p174
                                    replace q174 := eq_true q174
                                    have ea_ := Option.some.inj (hx172_1.symm.trans hx174_1)
                                    injection ea_ with ea_ en_ ec_
                                    subst ea_
                                    subst ec_
                                    clear en_
                                    have p175 : 0 ≤ (x3_1 : Int) := of_decide_eq_true (by first | (with_reducible assumption) | assumption)
                                    have q175 : x3_1 < (l0.length : Int) := of_decide_eq_true (by first | (with_reducible assumption) | assumption)
                                    obtain ⟨ad175, A175_1, c175_1, e175, hx175_0, hx175_1, hx175_2, hl175_1, hi175_1⟩ := at_T60 HR0.out x3_1 p175 q175
                                    have hw175_2 := hx175_2
                                    have hw175_1 := hx175_1
                                    have hw175_0 := hx175_0
                                    obtain rfl : ad172 = ad175 := (by injection e175)
                                    replace hx175_0 := (HB.out.cell (World.block_lt_of_cell? w _ hx175_0)).trans hx175_0
                                    replace hx175_1 := (HB.out.cell (World.block_lt_of_cell? w _ hx175_1)).trans hx175_1
                                    replace hx175_2 := (HB.out.cell (World.block_lt_of_cell? w _ hx175_2)).trans hx175_2
                                    have HR175_1 := Aside0.mk hi175_1
                                    have HC175_1 := Aside0.mk hl175_1
                                    clear hi175_1 hl175_1
                                    replace p175 := eq_true p175
                                    replace q175 := eq_true q175
                                    have ea_ := Option.some.inj (hx173_1.symm.trans hx175_1)
                                    injection ea_ with ea_ en_ ec_
                                    subst ea_
                                    subst ec_
                                    clear en_
                                    refine start_ (n := 24) (S := fun w' => w'.cell? (ad172.add ((x4_4).toNat * 3)) = some (.string ((rd_T60 l0 x4_4).f0)) ∧ w'.cell? ⟨(ad172.add ((x4_4).toNat * 3)).block, (ad172.add ((x4_4).toNat * 3)).off + 1, none⟩ = some (.slice A172_1 ((rd_T60 l0 x4_4).f1).length c172_1) ∧ w'.cell? ⟨(ad172.add ((x4_4).toNat * 3)).block, (ad172.add ((x4_4).toNat * 3)).off + 2, none⟩ = some (.int .i64 ((rd_T60 l0 x4_4).f2)) ∧ w'.cell? (ad172.add ((x3_1).toNat * 3)) = some (.string ((rd_T60 l0 x3_1).f0)) ∧ w'.cell? ⟨(ad172.add ((x3_1).toNat * 3)).block, (ad172.add ((x3_1).toNat * 3)).off + 1, none⟩ = some (.slice A173_1 ((rd_T60 l0 x3_1).f1).length c173_1) ∧ w'.cell? ⟨(ad172.add ((x3_1).toNat * 3)).block, (ad172.add ((x3_1).toNat * 3)).off + 2, none⟩ = some (.int .i64 ((rd_T60 l0 x3_1).f2)) ∧ w'.cell? (ad172.add ((x4_4).toNat * 3)) = some (.string ((rd_T60 l0 x4_4).f0)) ∧ w'.cell? ⟨(ad172.add ((x4_4).toNat * 3)).block, (ad172.add ((x4_4).toNat * 3)).off + 1, none⟩ = some (.slice A172_1 ((rd_T60 l0 x4_4).f1).length c172_1) ∧ w'.cell? ⟨(ad172.add ((x4_4).toNat * 3)).block, (ad172.add ((x4_4).toNat * 3)).off + 2, none⟩ = some (.int .i64 ((rd_T60 l0 x4_4).f2)) ∧ w'.cell? (ad172.add ((x3_1).toNat * 3)) = some (.string ((rd_T60 l0 x3_1).f0)) ∧ w'.cell? ⟨(ad172.add ((x3_1).toNat * 3)).block, (ad172.add ((x3_1).toNat * 3)).off + 1, none⟩ = some (.slice A173_1 ((rd_T60 l0 x3_1).f1).length c173_1) ∧ w'.cell? ⟨(ad172.add ((x3_1).toNat * 3)).block, (ad172.add ((x3_1).toNat * 3)).off + 2, none⟩ = some (.int .i64 ((rd_T60 l0 x3_1).f2))) (ds := []) #[false, false, false, false, false, false, false, false, false, false, false, false, false, false, false, false, false, false, false, false, false, false, false, false] (by kernel_rfl) rfl rfl ⟨((HB.out.cell (World.block_lt_of_cell? w _ hw172_0)).trans hw172_0), ((HB.out.cell (World.block_lt_of_cell? w _ hw172_1)).trans hw172_1), ((HB.out.cell (World.block_lt_of_cell? w _ hw172_2)).trans hw172_2), ((HB.out.cell (World.block_lt_of_cell? w _ hw173_0)).trans hw173_0), ((HB.out.cell (World.block_lt_of_cell? w _ hw173_1)).trans hw173_1), ((HB.out.cell (World.block_lt_of_cell? w _ hw173_2)).trans hw173_2), ((HB.out.cell (World.block_lt_of_cell? w _ hw174_0)).trans hw174_0), ((HB.out.cell (World.block_lt_of_cell? w _ hw174_1)).trans hw174_1), ((HB.out.cell (World.block_lt_of_cell? w _ hw174_2)).trans hw174_2), ((HB.out.cell (World.block_lt_of_cell? w _ hw175_0)).trans hw175_0), ((HB.out.cell (World.block_lt_of_cell? w _ hw175_1)).trans hw175_1), ((HB.out.cell (World.block_lt_of_cell? w _ hw175_2)).trans hw175_2)⟩ (fun hHeld => ?_); refine with_tabW spec_BindsValid.tab9 spec_BindsValid.bits9 (fun HT_ HW_ => ?_)
                                    generalize wr.drew = w29 at HB HR172_1 HR173_1 HR174_1 HR175_1 hx172_0 hx172_1 hx172_2 hx173_0 hx173_1 hx173_2 hx174_0 hx174_1 hx174_2 hx175_0 hx175_1 hx175_2 hHeld ⊢
                                    refine pure_ (i := 0) (N := some 52) (v := ?_) (a' := ?_) #[true, false, false, false, false, false, false, false, false, false, false, false, false, false, false, false, false, false, false, false, false, false, false, false] rfl rfl (any_of HT_.out (by kernel_rfl)) (fun _ _ _ h => h) (Or.inl ⟨by rfl, ?_⟩) ?_ ?_
                                    rotate_left
                                    · intro w'
                                      go_simp
                                      with_reducible rfl
                                    rotate_left
                                    · simp only [Act.put, List.setIfInBounds_toArray, List.set_cons_zero, List.set_cons_succ, i64_w, i32_w]
                                      rfl
                                    refine pure_ (i := 1) (N := some 53) (v := ?_) (a' := ?_) #[true, true, false, false, false, false, false, false, false, false, false, false, false, false, false, false, false, false, false, false, false, false, false, false] rfl rfl (any_of HT_.out (by kernel_rfl)) (fun _ _ _ h => h) (Or.inl ⟨by rfl, ?_⟩) ?_ ?_
                                    rotate_left
                                    · intro w'
                                      go_simp
                                      with_reducible rfl
                                    rotate_left
                                    · simp only [Act.put, List.setIfInBounds_toArray, List.set_cons_zero, List.set_cons_succ, i64_w, i32_w]
                                      rfl
                                    refine pure_ (i := 2) (N := some 54) (v := ?_) (a' := ?_) #[true, true, true, false, false, false, false, false, false, false, false, false, false, false, false, false, false, false, false, false, false, false, false, false] rfl rfl (any_of HT_.out (by kernel_rfl)) (fun _ _ _ h => h) (Or.inl ⟨by rfl, ?_⟩) ?_ ?_
                                    rotate_left
                                    · intro w'
                                      go_simp
                                      with_reducible rfl
                                    rotate_left
                                    · simp only [Act.put, List.setIfInBounds_toArray, List.set_cons_zero, List.set_cons_succ, i64_w, i32_w]
                                      rfl
                                    refine pure_ (i := 3) (N := some 55) (v := ?_) (a' := ?_) #[true, true, true, true, false, false, false, false, false, false, false, false, false, false, false, false, false, false, false, false, false, false, false, false] rfl rfl (any_of HT_.out (by kernel_rfl)) (fun _ _ _ h => h) (Or.inl ⟨by rfl, ?_⟩) ?_ ?_
                                    rotate_left
                                    · intro w'
                                      go_simp
                                      with_reducible rfl
                                    rotate_left
                                    · simp only [Act.put, List.setIfInBounds_toArray, List.set_cons_zero, List.set_cons_succ, i64_w, i32_w]
                                      rfl
                                    refine pure_ (i := 5) (N := some 57) (v := ?_) (a' := ?_) #[true, true, true, true, false, true, false, false, false, false, false, false, false, false, false, false, false, false, false, false, false, false, false, false] rfl rfl (any_of HT_.out (by kernel_rfl)) (fun _ _ _ h => h) (Or.inl ⟨by rfl, ?_⟩) ?_ ?_
                                    rotate_left
                                    · intro w'
                                      go_simp
                                      with_reducible rfl
                                    rotate_left
                                    · simp only [Act.put, List.setIfInBounds_toArray, List.set_cons_zero, List.set_cons_succ, i64_w, i32_w]
                                      rfl
                                    refine pure_ (i := 6) (N := some 58) (v := ?_) (a' := ?_) #[true, true, true, true, false, true, true, false, false, false, false, false, false, false, false, false, false, false, false, false, false, false, false, false] rfl rfl (any_of HT_.out (by kernel_rfl)) (fun _ _ _ h => h) (Or.inl ⟨by rfl, ?_⟩) ?_ ?_
                                    rotate_left
                                    · intro w'
                                      go_simp
                                      with_reducible rfl
                                    rotate_left
                                    · simp only [Act.put, List.setIfInBounds_toArray, List.set_cons_zero, List.set_cons_succ, i64_w, i32_w]
                                      rfl
                                    refine pure_ (i := 7) (N := some 59) (v := ?_) (a' := ?_) #[true, true, true, true, false, true, true, true, false, false, false, false, false, false, false, false, false, false, false, false, false, false, false, false] rfl rfl (any_of HT_.out (by kernel_rfl)) (fun _ _ _ h => h) (Or.inl ⟨by rfl, ?_⟩) ?_ ?_
                                    rotate_left
                                    · intro w'
                                      go_simp
                                      with_reducible rfl
                                    rotate_left
                                    · simp only [Act.put, List.setIfInBounds_toArray, List.set_cons_zero, List.set_cons_succ, i64_w, i32_w]
                                      rfl
                                    refine pure_ (i := 8) (N := some 60) (v := ?_) (a' := ?_) #[true, true, true, true, false, true, true, true, true, false, false, false, false, false, false, false, false, false, false, false, false, false, false, false] rfl rfl (any_of HT_.out (by kernel_rfl)) (fun _ _ _ h => h) (Or.inl ⟨by rfl, ?_⟩) ?_ ?_
                                    rotate_left
                                    · intro w'
                                      go_simp
                                      with_reducible rfl
                                    rotate_left
                                    · simp only [Act.put, List.setIfInBounds_toArray, List.set_cons_zero, List.set_cons_succ, i64_w, i32_w]
                                      rfl
                                    refine take_ (i := 4) (N := some 56) (v := ?_) (a' := ?_) #[true, true, true, true, true, true, true, true, true, false, false, false, false, false, false, false, false, false, false, false, false, false, false, false] rfl rfl (take_ofW HT_.out HW_.out (by kernel_rfl)) (fun _ _ _ h => h) (Or.inl ⟨by rfl, ?_⟩) hHeld ?_ ?_
                                    rotate_left
                                    · rintro w' ⟨s0, s1, s2, s3, s4, s5, s6, s7, s8, s9, s10, s11⟩
                                      go_simp
                                      with_reducible rfl
                                    rotate_left
                                    · simp only [Act.put, List.setIfInBounds_toArray, List.set_cons_zero, List.set_cons_succ, i64_w, i32_w]
                                      rfl
                                    refine take_ (i := 9) (N := some 61) (v := ?_) (a' := ?_) #[true, true, true, true, true, true, true, true, true, true, false, false, false, false, false, false, false, false, false, false, false, false, false, false] rfl rfl (take_ofW HT_.out HW_.out (by kernel_rfl)) (fun _ _ _ h => h) (Or.inl ⟨by rfl, ?_⟩) hHeld ?_ ?_
                                    rotate_left
                                    · rintro w' ⟨s0, s1, s2, s3, s4, s5, s6, s7, s8, s9, s10, s11⟩
                                      go_simp
                                      with_reducible rfl
                                    rotate_left
                                    · simp only [Act.put, List.setIfInBounds_toArray, List.set_cons_zero, List.set_cons_succ, i64_w, i32_w]
                                      rfl
                                    refine pure_ (i := 10) (N := some 62) (v := ?_) (a' := ?_) #[true, true, true, true, true, true, true, true, true, true, true, false, false, false, false, false, false, false, false, false, false, false, false, false] rfl rfl (any_of HT_.out (by kernel_rfl)) (fun _ _ _ h => h) (Or.inl ⟨by rfl, ?_⟩) ?_ ?_
                                    rotate_left
                                    · intro w'
                                      go_simp
                                      with_reducible rfl
                                    rotate_left
                                    · simp only [Act.put, List.setIfInBounds_toArray, List.set_cons_zero, List.set_cons_succ, i64_w, i32_w]
                                      rfl
                                    refine pure_ (i := 11) (N := some 63) (v := ?_) (a' := ?_) #[true, true, true, true, true, true, true, true, true, true, true, true, false, false, false, false, false, false, false, false, false, false, false, false] rfl rfl (any_of HT_.out (by kernel_rfl)) (fun _ _ _ h => h) (Or.inl ⟨by rfl, ?_⟩) ?_ ?_
                                    rotate_left
                                    · intro w'
                                      go_simp
                                      with_reducible rfl
                                    rotate_left
                                    · simp only [Act.put, List.setIfInBounds_toArray, List.set_cons_zero, List.set_cons_succ, i64_w, i32_w]
                                      rfl
                                    refine pure_ (i := 12) (N := some 64) (v := ?_) (a' := ?_) #[true, true, true, true, true, true, true, true, true, true, true, true, true, false, false, false, false, false, false, false, false, false, false, false] rfl rfl (any_of HT_.out (by kernel_rfl)) (fun _ _ _ h => h) (Or.inl ⟨by rfl, ?_⟩) ?_ ?_
                                    rotate_left
                                    · intro w'
                                      go_simp
                                      with_reducible rfl
                                    rotate_left
                                    · simp only [Act.put, List.setIfInBounds_toArray, List.set_cons_zero, List.set_cons_succ, i64_w, i32_w]
                                      rfl
                                    refine pure_ (i := 13) (N := some 65) (v := ?_) (a' := ?_) #[true, true, true, true, true, true, true, true, true, true, true, true, true, true, false, false, false, false, false, false, false, false, false, false] rfl rfl (any_of HT_.out (by kernel_rfl)) (fun _ _ _ h => h) (Or.inl ⟨by rfl, ?_⟩) ?_ ?_
                                    rotate_left
                                    · intro w'
                                      go_simp
                                      with_reducible rfl
                                    rotate_left
                                    · simp only [Act.put, List.setIfInBounds_toArray, List.set_cons_zero, List.set_cons_succ, i64_w, i32_w]
                                      rfl
                                    refine pure_ (i := 14) (N := some 66) (v := ?_) (a' := ?_) #[true, true, true, true, true, true, true, true, true, true, true, true, true, true, true, false, false, false, false, false, false, false, false, false] rfl rfl (any_of HT_.out (by kernel_rfl)) (fun _ _ _ h => h) (Or.inl ⟨by rfl, ?_⟩) ?_ ?_
                                    rotate_left
                                    · intro w'
                                      go_simp
                                      with_reducible rfl
                                    rotate_left
                                    · simp only [Act.put, List.setIfInBounds_toArray, List.set_cons_zero, List.set_cons_succ, i64_w, i32_w]
                                      rfl
                                    refine pure_ (i := 15) (N := some 67) (v := ?_) (a' := ?_) #[true, true, true, true, true, true, true, true, true, true, true, true, true, true, true, true, false, false, false, false, false, false, false, false] rfl rfl (any_of HT_.out (by kernel_rfl)) (fun _ _ _ h => h) (Or.inl ⟨by rfl, ?_⟩) ?_ ?_
                                    rotate_left
                                    · intro w'
                                      go_simp
                                      with_reducible rfl
                                    rotate_left
                                    · simp only [Act.put, List.setIfInBounds_toArray, List.set_cons_zero, List.set_cons_succ, i64_w, i32_w]
                                      rfl
                                    refine pure_ (i := 17) (N := some 69) (v := ?_) (a' := ?_) #[true, true, true, true, true, true, true, true, true, true, true, true, true, true, true, true, false, true, false, false, false, false, false, false] rfl rfl (any_of HT_.out (by kernel_rfl)) (fun _ _ _ h => h) (Or.inl ⟨by rfl, ?_⟩) ?_ ?_
                                    rotate_left
                                    · intro w'
                                      go_simp
                                      with_reducible rfl
                                    rotate_left
                                    · simp only [Act.put, List.setIfInBounds_toArray, List.set_cons_zero, List.set_cons_succ, i64_w, i32_w]
                                      rfl
                                    refine pure_ (i := 18) (N := some 70) (v := ?_) (a' := ?_) #[true, true, true, true, true, true, true, true, true, true, true, true, true, true, true, true, false, true, true, false, false, false, false, false] rfl rfl (any_of HT_.out (by kernel_rfl)) (fun _ _ _ h => h) (Or.inl ⟨by rfl, ?_⟩) ?_ ?_
                                    rotate_left
                                    · intro w'
                                      go_simp
                                      with_reducible rfl
                                    rotate_left
                                    · simp only [Act.put, List.setIfInBounds_toArray, List.set_cons_zero, List.set_cons_succ, i64_w, i32_w]
                                      rfl
                                    refine pure_ (i := 19) (N := some 71) (v := ?_) (a' := ?_) #[true, true, true, true, true, true, true, true, true, true, true, true, true, true, true, true, false, true, true, true, false, false, false, false] rfl rfl (any_of HT_.out (by kernel_rfl)) (fun _ _ _ h => h) (Or.inl ⟨by rfl, ?_⟩) ?_ ?_
                                    rotate_left
                                    · intro w'
                                      go_simp
                                      with_reducible rfl
                                    rotate_left
                                    · simp only [Act.put, List.setIfInBounds_toArray, List.set_cons_zero, List.set_cons_succ, i64_w, i32_w]
                                      rfl
                                    refine pure_ (i := 20) (N := some 72) (v := ?_) (a' := ?_) #[true, true, true, true, true, true, true, true, true, true, true, true, true, true, true, true, false, true, true, true, true, false, false, false] rfl rfl (any_of HT_.out (by kernel_rfl)) (fun _ _ _ h => h) (Or.inl ⟨by rfl, ?_⟩) ?_ ?_
                                    rotate_left
                                    · intro w'
                                      go_simp
                                      with_reducible rfl
                                    rotate_left
                                    · simp only [Act.put, List.setIfInBounds_toArray, List.set_cons_zero, List.set_cons_succ, i64_w, i32_w]
                                      rfl
                                    refine take_ (i := 16) (N := some 68) (v := ?_) (a' := ?_) #[true, true, true, true, true, true, true, true, true, true, true, true, true, true, true, true, true, true, true, true, true, false, false, false] rfl rfl (take_ofW HT_.out HW_.out (by kernel_rfl)) (fun _ _ _ h => h) (Or.inl ⟨by rfl, ?_⟩) hHeld ?_ ?_
                                    rotate_left
                                    · rintro w' ⟨s0, s1, s2, s3, s4, s5, s6, s7, s8, s9, s10, s11⟩
                                      go_simp
                                      with_reducible rfl
                                    rotate_left
                                    · simp only [Act.put, List.setIfInBounds_toArray, List.set_cons_zero, List.set_cons_succ, i64_w, i32_w]
                                      rfl
                                    refine take_ (i := 21) (N := some 73) (v := ?_) (a' := ?_) #[true, true, true, true, true, true, true, true, true, true, true, true, true, true, true, true, true, true, true, true, true, true, false, false] rfl rfl (take_ofW HT_.out HW_.out (by kernel_rfl)) (fun _ _ _ h => h) (Or.inl ⟨by rfl, ?_⟩) hHeld ?_ ?_
                                    rotate_left
                                    · rintro w' ⟨s0, s1, s2, s3, s4, s5, s6, s7, s8, s9, s10, s11⟩
                                      go_simp
                                      with_reducible rfl
                                    rotate_left
                                    · simp only [Act.put, List.setIfInBounds_toArray, List.set_cons_zero, List.set_cons_succ, i64_w, i32_w]
                                      rfl
                                    refine one_ (i := 22) (N := some 74) #[true, true, true, true, true, true, true, true, true, true, true, true, true, true, true, true, true, true, true, true, true, true, true, false] rfl rfl (one_of HT_.out (by kernel_rfl)) (by decide) (fun K hK => ?_)
                                    refine goes_ Tryd.func35 (by kernel_rfl) rfl #[.slice A172_1 ((rd_T60 l0 x4_4).f1).length c172_1, .slice A173_1 ((rd_T60 l0 x3_1).f1).length c173_1] (by rfl) rfl rfl (by (try simp only [List.map_toArray, List.map_cons, List.map_nil]); first | done | rfl | (simp only [List.length_drop, List.length_take]; rfl)) ?_
                                    with_reducible refine (spec_l1Ints.calls _ _ ((rd_T60 l0 x4_4).f1) _ _ ((rd_T60 l0 x3_1).f1) true _ ?side1 ?side2 ?side3 ?side4 A27.out).mono ?_
                                    (case side1 => repeat (first | exact (Kd.C_below HR174_1.out HB.out) | (with_reducible refine Kd.C_alloc ?_ _) | (with_reducible refine Kd.C_drewN ?_ _) | (with_reducible refine Kd.C_drew ?_)))
                                    (case side2 => exact HC174_1.out)
                                    (case side3 => repeat (first | exact (Kd.C_below HR175_1.out HB.out) | (with_reducible refine Kd.C_alloc ?_ _) | (with_reducible refine Kd.C_drewN ?_ _) | (with_reducible refine Kd.C_drew ?_)))
                                    (case side4 => exact HC175_1.out)
                                    rintro e w30 ⟨rfl, hb⟩
                                    refine ⟨_, rfl, ?_⟩
                                    have n0_ := Aside0.mk (below_step (by repeat (first | (with_reducible first | exact HB.out | apply below_alloc | apply pw_below_drewN | apply below_drew1) | exact HB.out)) hb)
                                    clear HB
                                    have HB := n0_
                                    clear n0_
                                    (try clear hb)
                                    (try clear hb2)
                                    (try clear hk)
                                    (try clear hi)
                                    refine hK.out _ _ ⟨((HB.out.cell (World.block_lt_of_cell? w _ hw172_0)).trans hw172_0), ((HB.out.cell (World.block_lt_of_cell? w _ hw172_1)).trans hw172_1), ((HB.out.cell (World.block_lt_of_cell? w _ hw172_2)).trans hw172_2), ((HB.out.cell (World.block_lt_of_cell? w _ hw173_0)).trans hw173_0), ((HB.out.cell (World.block_lt_of_cell? w _ hw173_1)).trans hw173_1), ((HB.out.cell (World.block_lt_of_cell? w _ hw173_2)).trans hw173_2), ((HB.out.cell (World.block_lt_of_cell? w _ hw174_0)).trans hw174_0), ((HB.out.cell (World.block_lt_of_cell? w _ hw174_1)).trans hw174_1), ((HB.out.cell (World.block_lt_of_cell? w _ hw174_2)).trans hw174_2), ((HB.out.cell (World.block_lt_of_cell? w _ hw175_0)).trans hw175_0), ((HB.out.cell (World.block_lt_of_cell? w _ hw175_1)).trans hw175_1), ((HB.out.cell (World.block_lt_of_cell? w _ hw175_2)).trans hw175_2)⟩ (fun hHeld => ?_)
                                    clear hK K
                                    refine norm_ (a' := ?_) ?_ ?_
                                    rotate_left
                                    · show Act.put _ (some 74) _ = _
                                      simp only [Act.put, List.setIfInBounds_toArray, List.set_cons_zero, List.set_cons_succ, i64_w, i32_w]
                                      rfl
                                    refine pure_ (i := 23) (N := some 75) (v := ?_) (a' := ?_) #[true, true, true, true, true, true, true, true, true, true, true, true, true, true, true, true, true, true, true, true, true, true, true, true] rfl rfl (any_of HT_.out (by kernel_rfl)) (fun _ _ _ h => h) (Or.inl ⟨by rfl, ?_⟩) ?_ ?_
                                    rotate_left
                                    · intro w'
                                      go_simp
                                      with_reducible rfl
                                    rotate_left
                                    · simp only [Act.put, List.setIfInBounds_toArray, List.set_cons_zero, List.set_cons_succ, i64_w, i32_w]
                                      rfl
                                    refine done_ (done_of HT_.out (by kernel_rfl)) ?_
                                    try go_wp2
                                    go_ret
                                    exact ⟨by first | rfl | (simp [errW_none, errW_some] <;> rfl) | (simp [*, errW_none, errW_some] <;> rfl), by repeat (first | (with_reducible first | exact HB.out | apply below_alloc | apply pw_below_drewN | apply below_drew1) | exact HB.out)⟩
                                  · replace c28 := Bool.eq_false_iff.mpr c28
                                    subst c28
                                    have H1 : (spec_BindsValid.l1 k4 l0 x3_1 (wrap64 (x4_4 + 1))) = some r := by rw [if_neg (show ¬ (false = true) by decide)] at H; exact H
                                    clear H
                                    have H := H1
                                    clear H1
                                    have H' := Aside0.mk H
                                    clear H
                                    try go_wp2
                                    have n0_ := Aside0.mk (below_drew1 HB.out)
                                    clear HB
                                    have HB := n0_
                                    clear n0_
                                    have p172 : 0 ≤ (x4_4 : Int) := of_decide_eq_true (by first | (with_reducible assumption) | assumption)
                                    have q172 : x4_4 < (l0.length : Int) := of_decide_eq_true (by first | (with_reducible assumption) | assumption)
                                    obtain ⟨ad172, A172_1, c172_1, e172, hx172_0, hx172_1, hx172_2, hl172_1, hi172_1⟩ := at_T60 HR0.out x4_4 p172 q172
                                    have hw172_2 := hx172_2
                                    have hw172_1 := hx172_1
                                    have hw172_0 := hx172_0
                                    cases e172
                                    replace hx172_0 := (HB.out.cell (World.block_lt_of_cell? w _ hx172_0)).trans hx172_0
                                    replace hx172_1 := (HB.out.cell (World.block_lt_of_cell? w _ hx172_1)).trans hx172_1
                                    replace hx172_2 := (HB.out.cell (World.block_lt_of_cell? w _ hx172_2)).trans hx172_2
                                    have HR172_1 := Aside0.mk hi172_1
                                    have HC172_1 := Aside0.mk hl172_1
                                    clear hi172_1 hl172_1
                                    replace p172 := eq_true p172
                                    replace q172 := eq_true q172
                                    have p173 : 0 ≤ (x3_1 : Int) := of_decide_eq_true (by first | (with_reducible assumption) | assumption)
                                    have q173 : x3_1 < (l0.length : Int) := of_decide_eq_true (by first | (with_reducible assumption) | assumption)
                                    obtain ⟨ad173, A173_1, c173_1, e173, hx173_0, hx173_1, hx173_2, hl173_1, hi173_1⟩ := at_T60 HR0.out x3_1 p173 q173
                                    have hw173_2 := hx173_2
                                    have hw173_1 := hx173_1
                                    have hw173_0 := hx173_0
                                    obtain rfl : ad172 = ad173 := (by injection e173)
                                    replace hx173_0 := (HB.out.cell (World.block_lt_of_cell? w _ hx173_0)).trans hx173_0
                                    replace hx173_1 := (HB.out.cell (World.block_lt_of_cell? w _ hx173_1)).trans hx173_1
                                    replace hx173_2 := (HB.out.cell (World.block_lt_of_cell? w _ hx173_2)).trans hx173_2
                                    have HR173_1 := Aside0.mk hi173_1
                                    have HC173_1 := Aside0.mk hl173_1
                                    clear hi173_1 hl173_1
                                    replace p173 := eq_true p173
                                    replace q173 := eq_true q173
                                    have p174 : 0 ≤ (x4_4 : Int) := of_decide_eq_true (by first | (with_reducible assumption) | assumption)
                                    have q174 : x4_4 < (l0.length : Int) := of_decide_eq_true (by first | (with_reducible assumption) | assumption)
                                    obtain ⟨ad174, A174_1, c174_1, e174, hx174_0, hx174_1, hx174_2, hl174_1, hi174_1⟩ := at_T60 HR0.out x4_4 p174 q174
                                    have hw174_2 := hx174_2
                                    have hw174_1 := hx174_1
                                    have hw174_0 := hx174_0
                                    obtain rfl : ad172 = ad174 := (by injection e174)
                                    replace hx174_0 := (HB.out.cell (World.block_lt_of_cell? w _ hx174_0)).trans hx174_0
                                    replace hx174_1 := (HB.out.cell (World.block_lt_of_cell? w _ hx174_1)).trans hx174_1
                                    replace hx174_2 := (HB.out.cell (World.block_lt_of_cell? w _ hx174_2)).trans hx174_2
                                    have HR174_1 := Aside0.mk hi174_1
                                    have HC174_1 := Aside0.mk hl174_1
                                    clear hi174_1 hl174_1
                                    replace p174 := eq_true p174
                                    replace q174 := eq_true q174
                                    have ea_ := Option.some.inj (hx172_1.symm.trans hx174_1)
                                    injection ea_ with ea_ en_ ec_
                                    subst ea_
                                    subst ec_
                                    clear en_
                                    have p175 : 0 ≤ (x3_1 : Int) := of_decide_eq_true (by first | (with_reducible assumption) | assumption)
                                    have q175 : x3_1 < (l0.length : Int) := of_decide_eq_true (by first | (with_reducible assumption) | assumption)
                                    obtain ⟨ad175, A175_1, c175_1, e175, hx175_0, hx175_1, hx175_2, hl175_1, hi175_1⟩ := at_T60 HR0.out x3_1 p175 q175
                                    have hw175_2 := hx175_2
                                    have hw175_1 := hx175_1
                                    have hw175_0 := hx175_0
                                    obtain rfl : ad172 = ad175 := (by injection e175)
                                    replace hx175_0 := (HB.out.cell (World.block_lt_of_cell? w _ hx175_0)).trans hx175_0
                                    replace hx175_1 := (HB.out.cell (World.block_lt_of_cell? w _ hx175_1)).trans hx175_1
                                    replace hx175_2 := (HB.out.cell (World.block_lt_of_cell? w _ hx175_2)).trans hx175_2
                                    have HR175_1 := Aside0.mk hi175_1
                                    have HC175_1 := Aside0.mk hl175_1
                                    clear hi175_1 hl175_1
                                    replace p175 := eq_true p175
                                    replace q175 := eq_true q175
                                    have ea_ := Option.some.inj (hx173_1.symm.trans hx175_1)
                                    injection ea_ with ea_ en_ ec_
                                    subst ea_
                                    subst ec_
                                    clear en_
                                    refine start_ (n := 24) (S := fun w' => w'.cell? (ad172.add ((x4_4).toNat * 3)) = some (.string ((rd_T60 l0 x4_4).f0)) ∧ w'.cell? ⟨(ad172.add ((x4_4).toNat * 3)).block, (ad172.add ((x4_4).toNat * 3)).off + 1, none⟩ = some (.slice A172_1 ((rd_T60 l0 x4_4).f1).length c172_1) ∧ w'.cell? ⟨(ad172.add ((x4_4).toNat * 3)).block, (ad172.add ((x4_4).toNat * 3)).off + 2, none⟩ = some (.int .i64 ((rd_T60 l0 x4_4).f2)) ∧ w'.cell? (ad172.add ((x3_1).toNat * 3)) = some (.string ((rd_T60 l0 x3_1).f0)) ∧ w'.cell? ⟨(ad172.add ((x3_1).toNat * 3)).block, (ad172.add ((x3_1).toNat * 3)).off + 1, none⟩ = some (.slice A173_1 ((rd_T60 l0 x3_1).f1).length c173_1) ∧ w'.cell? ⟨(ad172.add ((x3_1).toNat * 3)).block, (ad172.add ((x3_1).toNat * 3)).off + 2, none⟩ = some (.int .i64 ((rd_T60 l0 x3_1).f2)) ∧ w'.cell? (ad172.add ((x4_4).toNat * 3)) = some (.string ((rd_T60 l0 x4_4).f0)) ∧ w'.cell? ⟨(ad172.add ((x4_4).toNat * 3)).block, (ad172.add ((x4_4).toNat * 3)).off + 1, none⟩ = some (.slice A172_1 ((rd_T60 l0 x4_4).f1).length c172_1) ∧ w'.cell? ⟨(ad172.add ((x4_4).toNat * 3)).block, (ad172.add ((x4_4).toNat * 3)).off + 2, none⟩ = some (.int .i64 ((rd_T60 l0 x4_4).f2)) ∧ w'.cell? (ad172.add ((x3_1).toNat * 3)) = some (.string ((rd_T60 l0 x3_1).f0)) ∧ w'.cell? ⟨(ad172.add ((x3_1).toNat * 3)).block, (ad172.add ((x3_1).toNat * 3)).off + 1, none⟩ = some (.slice A173_1 ((rd_T60 l0 x3_1).f1).length c173_1) ∧ w'.cell? ⟨(ad172.add ((x3_1).toNat * 3)).block, (ad172.add ((x3_1).toNat * 3)).off + 2, none⟩ = some (.int .i64 ((rd_T60 l0 x3_1).f2))) (ds := []) #[false, false, false, false, false, false, false, false, false, false, false, false, false, false, false, false, false, false, false, false, false, false, false, false] (by kernel_rfl) rfl rfl ⟨((HB.out.cell (World.block_lt_of_cell? w _ hw172_0)).trans hw172_0), ((HB.out.cell (World.block_lt_of_cell? w _ hw172_1)).trans hw172_1), ((HB.out.cell (World.block_lt_of_cell? w _ hw172_2)).trans hw172_2), ((HB.out.cell (World.block_lt_of_cell? w _ hw173_0)).trans hw173_0), ((HB.out.cell (World.block_lt_of_cell? w _ hw173_1)).trans hw173_1), ((HB.out.cell (World.block_lt_of_cell? w _ hw173_2)).trans hw173_2), ((HB.out.cell (World.block_lt_of_cell? w _ hw174_0)).trans hw174_0), ((HB.out.cell (World.block_lt_of_cell? w _ hw174_1)).trans hw174_1), ((HB.out.cell (World.block_lt_of_cell? w _ hw174_2)).trans hw174_2), ((HB.out.cell (World.block_lt_of_cell? w _ hw175_0)).trans hw175_0), ((HB.out.cell (World.block_lt_of_cell? w _ hw175_1)).trans hw175_1), ((HB.out.cell (World.block_lt_of_cell? w _ hw175_2)).trans hw175_2)⟩ (fun hHeld => ?_); refine with_tabW spec_BindsValid.tab9 spec_BindsValid.bits9 (fun HT_ HW_ => ?_)
                                    generalize wr.drew = w31 at HB HR172_1 HR173_1 HR174_1 HR175_1 hx172_0 hx172_1 hx172_2 hx173_0 hx173_1 hx173_2 hx174_0 hx174_1 hx174_2 hx175_0 hx175_1 hx175_2 hHeld ⊢
                                    refine pure_ (i := 0) (N := some 52) (v := ?_) (a' := ?_) #[true, false, false, false, false, false, false, false, false, false, false, false, false, false, false, false, false, false, false, false, false, false, false, false] rfl rfl (any_of HT_.out (by kernel_rfl)) (fun _ _ _ h => h) (Or.inl ⟨by rfl, ?_⟩) ?_ ?_
                                    rotate_left
                                    · intro w'
                                      go_simp
                                      with_reducible rfl
                                    rotate_left
                                    · simp only [Act.put, List.setIfInBounds_toArray, List.set_cons_zero, List.set_cons_succ, i64_w, i32_w]
                                      rfl
                                    refine pure_ (i := 1) (N := some 53) (v := ?_) (a' := ?_) #[true, true, false, false, false, false, false, false, false, false, false, false, false, false, false, false, false, false, false, false, false, false, false, false] rfl rfl (any_of HT_.out (by kernel_rfl)) (fun _ _ _ h => h) (Or.inl ⟨by rfl, ?_⟩) ?_ ?_
                                    rotate_left
                                    · intro w'
                                      go_simp
                                      with_reducible rfl
                                    rotate_left
                                    · simp only [Act.put, List.setIfInBounds_toArray, List.set_cons_zero, List.set_cons_succ, i64_w, i32_w]
                                      rfl
                                    refine pure_ (i := 2) (N := some 54) (v := ?_) (a' := ?_) #[true, true, true, false, false, false, false, false, false, false, false, false, false, false, false, false, false, false, false, false, false, false, false, false] rfl rfl (any_of HT_.out (by kernel_rfl)) (fun _ _ _ h => h) (Or.inl ⟨by rfl, ?_⟩) ?_ ?_
                                    rotate_left
                                    · intro w'
                                      go_simp
                                      with_reducible rfl
                                    rotate_left
                                    · simp only [Act.put, List.setIfInBounds_toArray, List.set_cons_zero, List.set_cons_succ, i64_w, i32_w]
                                      rfl
                                    refine pure_ (i := 3) (N := some 55) (v := ?_) (a' := ?_) #[true, true, true, true, false, false, false, false, false, false, false, false, false, false, false, false, false, false, false, false, false, false, false, false] rfl rfl (any_of HT_.out (by kernel_rfl)) (fun _ _ _ h => h) (Or.inl ⟨by rfl, ?_⟩) ?_ ?_
                                    rotate_left
                                    · intro w'
                                      go_simp
                                      with_reducible rfl
                                    rotate_left
                                    · simp only [Act.put, List.setIfInBounds_toArray, List.set_cons_zero, List.set_cons_succ, i64_w, i32_w]
                                      rfl
                                    refine pure_ (i := 5) (N := some 57) (v := ?_) (a' := ?_) #[true, true, true, true, false, true, false, false, false, false, false, false, false, false, false, false, false, false, false, false, false, false, false, false] rfl rfl (any_of HT_.out (by kernel_rfl)) (fun _ _ _ h => h) (Or.inl ⟨by rfl, ?_⟩) ?_ ?_
                                    rotate_left
                                    · intro w'
                                      go_simp
                                      with_reducible rfl
                                    rotate_left
                                    · simp only [Act.put, List.setIfInBounds_toArray, List.set_cons_zero, List.set_cons_succ, i64_w, i32_w]
                                      rfl
                                    refine pure_ (i := 6) (N := some 58) (v := ?_) (a' := ?_) #[true, true, true, true, false, true, true, false, false, false, false, false, false, false, false, false, false, false, false, false, false, false, false, false] rfl rfl (any_of HT_.out (by kernel_rfl)) (fun _ _ _ h => h) (Or.inl ⟨by rfl, ?_⟩) ?_ ?_
                                    rotate_left
                                    · intro w'
                                      go_simp
                                      with_reducible rfl
                                    rotate_left
                                    · simp only [Act.put, List.setIfInBounds_toArray, List.set_cons_zero, List.set_cons_succ, i64_w, i32_w]
                                      rfl
                                    refine pure_ (i := 7) (N := some 59) (v := ?_) (a' := ?_) #[true, true, true, true, false, true, true, true, false, false, false, false, false, false, false, false, false, false, false, false, false, false, false, false] rfl rfl (any_of HT_.out (by kernel_rfl)) (fun _ _ _ h => h) (Or.inl ⟨by rfl, ?_⟩) ?_ ?_
                                    rotate_left
                                    · intro w'
                                      go_simp
                                      with_reducible rfl
                                    rotate_left
                                    · simp only [Act.put, List.setIfInBounds_toArray, List.set_cons_zero, List.set_cons_succ, i64_w, i32_w]
                                      rfl
                                    refine pure_ (i := 8) (N := some 60) (v := ?_) (a' := ?_) #[true, true, true, true, false, true, true, true, true, false, false, false, false, false, false, false, false, false, false, false, false, false, false, false] rfl rfl (any_of HT_.out (by kernel_rfl)) (fun _ _ _ h => h) (Or.inl ⟨by rfl, ?_⟩) ?_ ?_
                                    rotate_left
                                    · intro w'
                                      go_simp
                                      with_reducible rfl
                                    rotate_left
                                    · simp only [Act.put, List.setIfInBounds_toArray, List.set_cons_zero, List.set_cons_succ, i64_w, i32_w]
                                      rfl
                                    refine take_ (i := 4) (N := some 56) (v := ?_) (a' := ?_) #[true, true, true, true, true, true, true, true, true, false, false, false, false, false, false, false, false, false, false, false, false, false, false, false] rfl rfl (take_ofW HT_.out HW_.out (by kernel_rfl)) (fun _ _ _ h => h) (Or.inl ⟨by rfl, ?_⟩) hHeld ?_ ?_
                                    rotate_left
                                    · rintro w' ⟨s0, s1, s2, s3, s4, s5, s6, s7, s8, s9, s10, s11⟩
                                      go_simp
                                      with_reducible rfl
                                    rotate_left
                                    · simp only [Act.put, List.setIfInBounds_toArray, List.set_cons_zero, List.set_cons_succ, i64_w, i32_w]
                                      rfl
                                    refine take_ (i := 9) (N := some 61) (v := ?_) (a' := ?_) #[true, true, true, true, true, true, true, true, true, true, false, false, false, false, false, false, false, false, false, false, false, false, false, false] rfl rfl (take_ofW HT_.out HW_.out (by kernel_rfl)) (fun _ _ _ h => h) (Or.inl ⟨by rfl, ?_⟩) hHeld ?_ ?_
                                    rotate_left
                                    · rintro w' ⟨s0, s1, s2, s3, s4, s5, s6, s7, s8, s9, s10, s11⟩
                                      go_simp
                                      with_reducible rfl
                                    rotate_left
                                    · simp only [Act.put, List.setIfInBounds_toArray, List.set_cons_zero, List.set_cons_succ, i64_w, i32_w]
                                      rfl
                                    refine pure_ (i := 10) (N := some 62) (v := ?_) (a' := ?_) #[true, true, true, true, true, true, true, true, true, true, true, false, false, false, false, false, false, false, false, false, false, false, false, false] rfl rfl (any_of HT_.out (by kernel_rfl)) (fun _ _ _ h => h) (Or.inl ⟨by rfl, ?_⟩) ?_ ?_
                                    rotate_left
                                    · intro w'
                                      go_simp
                                      with_reducible rfl
                                    rotate_left
                                    · simp only [Act.put, List.setIfInBounds_toArray, List.set_cons_zero, List.set_cons_succ, i64_w, i32_w]
                                      rfl
                                    refine pure_ (i := 11) (N := some 63) (v := ?_) (a' := ?_) #[true, true, true, true, true, true, true, true, true, true, true, true, false, false, false, false, false, false, false, false, false, false, false, false] rfl rfl (any_of HT_.out (by kernel_rfl)) (fun _ _ _ h => h) (Or.inl ⟨by rfl, ?_⟩) ?_ ?_
                                    rotate_left
                                    · intro w'
                                      go_simp
                                      with_reducible rfl
                                    rotate_left
                                    · simp only [Act.put, List.setIfInBounds_toArray, List.set_cons_zero, List.set_cons_succ, i64_w, i32_w]
                                      rfl
                                    refine pure_ (i := 12) (N := some 64) (v := ?_) (a' := ?_) #[true, true, true, true, true, true, true, true, true, true, true, true, true, false, false, false, false, false, false, false, false, false, false, false] rfl rfl (any_of HT_.out (by kernel_rfl)) (fun _ _ _ h => h) (Or.inl ⟨by rfl, ?_⟩) ?_ ?_
                                    rotate_left
                                    · intro w'
                                      go_simp
                                      with_reducible rfl
                                    rotate_left
                                    · simp only [Act.put, List.setIfInBounds_toArray, List.set_cons_zero, List.set_cons_succ, i64_w, i32_w]
                                      rfl
                                    refine pure_ (i := 13) (N := some 65) (v := ?_) (a' := ?_) #[true, true, true, true, true, true, true, true, true, true, true, true, true, true, false, false, false, false, false, false, false, false, false, false] rfl rfl (any_of HT_.out (by kernel_rfl)) (fun _ _ _ h => h) (Or.inl ⟨by rfl, ?_⟩) ?_ ?_
                                    rotate_left
                                    · intro w'
                                      go_simp
                                      with_reducible rfl
                                    rotate_left
                                    · simp only [Act.put, List.setIfInBounds_toArray, List.set_cons_zero, List.set_cons_succ, i64_w, i32_w]
                                      rfl
                                    refine pure_ (i := 14) (N := some 66) (v := ?_) (a' := ?_) #[true, true, true, true, true, true, true, true, true, true, true, true, true, true, true, false, false, false, false, false, false, false, false, false] rfl rfl (any_of HT_.out (by kernel_rfl)) (fun _ _ _ h => h) (Or.inl ⟨by rfl, ?_⟩) ?_ ?_
                                    rotate_left
                                    · intro w'
                                      go_simp
                                      with_reducible rfl
                                    rotate_left
                                    · simp only [Act.put, List.setIfInBounds_toArray, List.set_cons_zero, List.set_cons_succ, i64_w, i32_w]
                                      rfl
                                    refine pure_ (i := 15) (N := some 67) (v := ?_) (a' := ?_) #[true, true, true, true, true, true, true, true, true, true, true, true, true, true, true, true, false, false, false, false, false, false, false, false] rfl rfl (any_of HT_.out (by kernel_rfl)) (fun _ _ _ h => h) (Or.inl ⟨by rfl, ?_⟩) ?_ ?_
                                    rotate_left
                                    · intro w'
                                      go_simp
                                      with_reducible rfl
                                    rotate_left
                                    · simp only [Act.put, List.setIfInBounds_toArray, List.set_cons_zero, List.set_cons_succ, i64_w, i32_w]
                                      rfl
                                    refine pure_ (i := 17) (N := some 69) (v := ?_) (a' := ?_) #[true, true, true, true, true, true, true, true, true, true, true, true, true, true, true, true, false, true, false, false, false, false, false, false] rfl rfl (any_of HT_.out (by kernel_rfl)) (fun _ _ _ h => h) (Or.inl ⟨by rfl, ?_⟩) ?_ ?_
                                    rotate_left
                                    · intro w'
                                      go_simp
                                      with_reducible rfl
                                    rotate_left
                                    · simp only [Act.put, List.setIfInBounds_toArray, List.set_cons_zero, List.set_cons_succ, i64_w, i32_w]
                                      rfl
                                    refine pure_ (i := 18) (N := some 70) (v := ?_) (a' := ?_) #[true, true, true, true, true, true, true, true, true, true, true, true, true, true, true, true, false, true, true, false, false, false, false, false] rfl rfl (any_of HT_.out (by kernel_rfl)) (fun _ _ _ h => h) (Or.inl ⟨by rfl, ?_⟩) ?_ ?_
                                    rotate_left
                                    · intro w'
                                      go_simp
                                      with_reducible rfl
                                    rotate_left
                                    · simp only [Act.put, List.setIfInBounds_toArray, List.set_cons_zero, List.set_cons_succ, i64_w, i32_w]
                                      rfl
                                    refine pure_ (i := 19) (N := some 71) (v := ?_) (a' := ?_) #[true, true, true, true, true, true, true, true, true, true, true, true, true, true, true, true, false, true, true, true, false, false, false, false] rfl rfl (any_of HT_.out (by kernel_rfl)) (fun _ _ _ h => h) (Or.inl ⟨by rfl, ?_⟩) ?_ ?_
                                    rotate_left
                                    · intro w'
                                      go_simp
                                      with_reducible rfl
                                    rotate_left
                                    · simp only [Act.put, List.setIfInBounds_toArray, List.set_cons_zero, List.set_cons_succ, i64_w, i32_w]
                                      rfl
                                    refine pure_ (i := 20) (N := some 72) (v := ?_) (a' := ?_) #[true, true, true, true, true, true, true, true, true, true, true, true, true, true, true, true, false, true, true, true, true, false, false, false] rfl rfl (any_of HT_.out (by kernel_rfl)) (fun _ _ _ h => h) (Or.inl ⟨by rfl, ?_⟩) ?_ ?_
                                    rotate_left
                                    · intro w'
                                      go_simp
                                      with_reducible rfl
                                    rotate_left
                                    · simp only [Act.put, List.setIfInBounds_toArray, List.set_cons_zero, List.set_cons_succ, i64_w, i32_w]
                                      rfl
                                    refine take_ (i := 16) (N := some 68) (v := ?_) (a' := ?_) #[true, true, true, true, true, true, true, true, true, true, true, true, true, true, true, true, true, true, true, true, true, false, false, false] rfl rfl (take_ofW HT_.out HW_.out (by kernel_rfl)) (fun _ _ _ h => h) (Or.inl ⟨by rfl, ?_⟩) hHeld ?_ ?_
                                    rotate_left
                                    · rintro w' ⟨s0, s1, s2, s3, s4, s5, s6, s7, s8, s9, s10, s11⟩
                                      go_simp
                                      with_reducible rfl
                                    rotate_left
                                    · simp only [Act.put, List.setIfInBounds_toArray, List.set_cons_zero, List.set_cons_succ, i64_w, i32_w]
                                      rfl
                                    refine take_ (i := 21) (N := some 73) (v := ?_) (a' := ?_) #[true, true, true, true, true, true, true, true, true, true, true, true, true, true, true, true, true, true, true, true, true, true, false, false] rfl rfl (take_ofW HT_.out HW_.out (by kernel_rfl)) (fun _ _ _ h => h) (Or.inl ⟨by rfl, ?_⟩) hHeld ?_ ?_
                                    rotate_left
                                    · rintro w' ⟨s0, s1, s2, s3, s4, s5, s6, s7, s8, s9, s10, s11⟩
                                      go_simp
                                      with_reducible rfl
                                    rotate_left
                                    · simp only [Act.put, List.setIfInBounds_toArray, List.set_cons_zero, List.set_cons_succ, i64_w, i32_w]
                                      rfl
                                    refine one_ (i := 22) (N := some 74) #[true, true, true, true, true, true, true, true, true, true, true, true, true, true, true, true, true, true, true, true, true, true, true, false] rfl rfl (one_of HT_.out (by kernel_rfl)) (by decide) (fun K hK => ?_)
                                    refine goes_ Tryd.func35 (by kernel_rfl) rfl #[.slice A172_1 ((rd_T60 l0 x4_4).f1).length c172_1, .slice A173_1 ((rd_T60 l0 x3_1).f1).length c173_1] (by rfl) rfl rfl (by (try simp only [List.map_toArray, List.map_cons, List.map_nil]); first | done | rfl | (simp only [List.length_drop, List.length_take]; rfl)) ?_
                                    with_reducible refine (spec_l1Ints.calls _ _ ((rd_T60 l0 x4_4).f1) _ _ ((rd_T60 l0 x3_1).f1) false _ ?side1 ?side2 ?side3 ?side4 A27.out).mono ?_
                                    (case side1 => repeat (first | exact (Kd.C_below HR174_1.out HB.out) | (with_reducible refine Kd.C_alloc ?_ _) | (with_reducible refine Kd.C_drewN ?_ _) | (with_reducible refine Kd.C_drew ?_)))
                                    (case side2 => exact HC174_1.out)
                                    (case side3 => repeat (first | exact (Kd.C_below HR175_1.out HB.out) | (with_reducible refine Kd.C_alloc ?_ _) | (with_reducible refine Kd.C_drewN ?_ _) | (with_reducible refine Kd.C_drew ?_)))
                                    (case side4 => exact HC175_1.out)
                                    rintro e w32 ⟨rfl, hb⟩
                                    refine ⟨_, rfl, ?_⟩
                                    have n0_ := Aside0.mk (below_step (by repeat (first | (with_reducible first | exact HB.out | apply below_alloc | apply pw_below_drewN | apply below_drew1) | exact HB.out)) hb)
                                    clear HB
                                    have HB := n0_
                                    clear n0_
                                    (try clear hb)
                                    (try clear hb2)
                                    (try clear hk)
                                    (try clear hi)
                                    refine hK.out _ _ ⟨((HB.out.cell (World.block_lt_of_cell? w _ hw172_0)).trans hw172_0), ((HB.out.cell (World.block_lt_of_cell? w _ hw172_1)).trans hw172_1), ((HB.out.cell (World.block_lt_of_cell? w _ hw172_2)).trans hw172_2), ((HB.out.cell (World.block_lt_of_cell? w _ hw173_0)).trans hw173_0), ((HB.out.cell (World.block_lt_of_cell? w _ hw173_1)).trans hw173_1), ((HB.out.cell (World.block_lt_of_cell? w _ hw173_2)).trans hw173_2), ((HB.out.cell (World.block_lt_of_cell? w _ hw174_0)).trans hw174_0), ((HB.out.cell (World.block_lt_of_cell? w _ hw174_1)).trans hw174_1), ((HB.out.cell (World.block_lt_of_cell? w _ hw174_2)).trans hw174_2), ((HB.out.cell (World.block_lt_of_cell? w _ hw175_0)).trans hw175_0), ((HB.out.cell (World.block_lt_of_cell? w _ hw175_1)).trans hw175_1), ((HB.out.cell (World.block_lt_of_cell? w _ hw175_2)).trans hw175_2)⟩ (fun hHeld => ?_)
                                    clear hK K
                                    refine norm_ (a' := ?_) ?_ ?_
                                    rotate_left
                                    · show Act.put _ (some 74) _ = _
                                      simp only [Act.put, List.setIfInBounds_toArray, List.set_cons_zero, List.set_cons_succ, i64_w, i32_w]
                                      rfl
                                    refine pure_ (i := 23) (N := some 75) (v := ?_) (a' := ?_) #[true, true, true, true, true, true, true, true, true, true, true, true, true, true, true, true, true, true, true, true, true, true, true, true] rfl rfl (any_of HT_.out (by kernel_rfl)) (fun _ _ _ h => h) (Or.inl ⟨by rfl, ?_⟩) ?_ ?_
                                    rotate_left
                                    · intro w'
                                      go_simp
                                      with_reducible rfl
                                    rotate_left
                                    · simp only [Act.put, List.setIfInBounds_toArray, List.set_cons_zero, List.set_cons_succ, i64_w, i32_w]
                                      rfl
                                    refine done_ (done_of HT_.out (by kernel_rfl)) ?_
                                    try go_wp2
                                    go_roundg k4
                                    case measure => have := HK1.out; have := HJ1.out; have := HJ4.out; have := HK4.out; omega
                                    case rel => exact ⟨(wrap64 (x4_4 + 1)), (by first | rfl | (simp; done) | (simp [*]; done)), H', ⟨by have := HK1.out; have := HJ1.out; have := HJ4.out; have := HK4.out; omega⟩, ⟨by repeat (first | (with_reducible first | exact HB.out | apply below_alloc | apply pw_below_drewN | apply below_drew1) | exact HB.out)⟩⟩
                                · rw [if_neg c26] at H
                                  have c26b0 : (((rd_T60 l0 x4_4).f0).toList == ((rd_T60 l0 x3_1).f0).toList) = false := beq_eq_false_iff_ne.mpr c26
                                  have c26b1 : (((rd_T60 l0 x4_4).f0).toList != ((rd_T60 l0 x3_1).f0).toList) = true := bne_iff_ne.mpr c26
                                  have H' := Aside0.mk H
                                  clear H
                                  try go_wp2
                                  have n0_ := Aside0.mk (below_drew1 HB.out)
                                  clear HB
                                  have HB := n0_
                                  clear n0_
                                  have p172 : 0 ≤ (x4_4 : Int) := of_decide_eq_true (by first | (with_reducible assumption) | assumption)
                                  have q172 : x4_4 < (l0.length : Int) := of_decide_eq_true (by first | (with_reducible assumption) | assumption)
                                  obtain ⟨ad172, A172_1, c172_1, e172, hx172_0, hx172_1, hx172_2, hl172_1, hi172_1⟩ := at_T60 HR0.out x4_4 p172 q172
                                  have hw172_2 := hx172_2
                                  have hw172_1 := hx172_1
                                  have hw172_0 := hx172_0
                                  cases e172
                                  replace hx172_0 := (HB.out.cell (World.block_lt_of_cell? w _ hx172_0)).trans hx172_0
                                  replace hx172_1 := (HB.out.cell (World.block_lt_of_cell? w _ hx172_1)).trans hx172_1
                                  replace hx172_2 := (HB.out.cell (World.block_lt_of_cell? w _ hx172_2)).trans hx172_2
                                  have HR172_1 := Aside0.mk hi172_1
                                  have HC172_1 := Aside0.mk hl172_1
                                  clear hi172_1 hl172_1
                                  replace p172 := eq_true p172
                                  replace q172 := eq_true q172
                                  have p173 : 0 ≤ (x3_1 : Int) := of_decide_eq_true (by first | (with_reducible assumption) | assumption)
                                  have q173 : x3_1 < (l0.length : Int) := of_decide_eq_true (by first | (with_reducible assumption) | assumption)
                                  obtain ⟨ad173, A173_1, c173_1, e173, hx173_0, hx173_1, hx173_2, hl173_1, hi173_1⟩ := at_T60 HR0.out x3_1 p173 q173
                                  have hw173_2 := hx173_2
                                  have hw173_1 := hx173_1
                                  have hw173_0 := hx173_0
                                  obtain rfl : ad172 = ad173 := (by injection e173)
                                  replace hx173_0 := (HB.out.cell (World.block_lt_of_cell? w _ hx173_0)).trans hx173_0
                                  replace hx173_1 := (HB.out.cell (World.block_lt_of_cell? w _ hx173_1)).trans hx173_1
                                  replace hx173_2 := (HB.out.cell (World.block_lt_of_cell? w _ hx173_2)).trans hx173_2
                                  have HR173_1 := Aside0.mk hi173_1
                                  have HC173_1 := Aside0.mk hl173_1
                                  clear hi173_1 hl173_1
                                  replace p173 := eq_true p173
                                  replace q173 := eq_true q173
                                  refine start_ (n := 24) (S := fun w' => w'.cell? (ad172.add ((x4_4).toNat * 3)) = some (.string ((rd_T60 l0 x4_4).f0)) ∧ w'.cell? ⟨(ad172.add ((x4_4).toNat * 3)).block, (ad172.add ((x4_4).toNat * 3)).off + 1, none⟩ = some (.slice A172_1 ((rd_T60 l0 x4_4).f1).length c172_1) ∧ w'.cell? ⟨(ad172.add ((x4_4).toNat * 3)).block, (ad172.add ((x4_4).toNat * 3)).off + 2, none⟩ = some (.int .i64 ((rd_T60 l0 x4_4).f2)) ∧ w'.cell? (ad172.add ((x3_1).toNat * 3)) = some (.string ((rd_T60 l0 x3_1).f0)) ∧ w'.cell? ⟨(ad172.add ((x3_1).toNat * 3)).block, (ad172.add ((x3_1).toNat * 3)).off + 1, none⟩ = some (.slice A173_1 ((rd_T60 l0 x3_1).f1).length c173_1) ∧ w'.cell? ⟨(ad172.add ((x3_1).toNat * 3)).block, (ad172.add ((x3_1).toNat * 3)).off + 2, none⟩ = some (.int .i64 ((rd_T60 l0 x3_1).f2))) (ds := []) #[false, false, false, false, false, false, false, false, false, false, false, false, false, false, false, false, false, false, false, false, false, false, false, false] (by kernel_rfl) rfl rfl ⟨((HB.out.cell (World.block_lt_of_cell? w _ hw172_0)).trans hw172_0), ((HB.out.cell (World.block_lt_of_cell? w _ hw172_1)).trans hw172_1), ((HB.out.cell (World.block_lt_of_cell? w _ hw172_2)).trans hw172_2), ((HB.out.cell (World.block_lt_of_cell? w _ hw173_0)).trans hw173_0), ((HB.out.cell (World.block_lt_of_cell? w _ hw173_1)).trans hw173_1), ((HB.out.cell (World.block_lt_of_cell? w _ hw173_2)).trans hw173_2)⟩ (fun hHeld => ?_); refine with_tabW spec_BindsValid.tab9 spec_BindsValid.bits9 (fun HT_ HW_ => ?_)
                                  generalize wr.drew = w33 at HB HR172_1 HR173_1 hx172_0 hx172_1 hx172_2 hx173_0 hx173_1 hx173_2 hHeld ⊢
                                  refine pure_ (i := 0) (N := some 52) (v := ?_) (a' := ?_) #[true, false, false, false, false, false, false, false, false, false, false, false, false, false, false, false, false, false, false, false, false, false, false, false] rfl rfl (any_of HT_.out (by kernel_rfl)) (fun _ _ _ h => h) (Or.inl ⟨by rfl, ?_⟩) ?_ ?_
                                  rotate_left
                                  · intro w'
                                    go_simp
                                    with_reducible rfl
                                  rotate_left
                                  · simp only [Act.put, List.setIfInBounds_toArray, List.set_cons_zero, List.set_cons_succ, i64_w, i32_w]
                                    rfl
                                  refine pure_ (i := 1) (N := some 53) (v := ?_) (a' := ?_) #[true, true, false, false, false, false, false, false, false, false, false, false, false, false, false, false, false, false, false, false, false, false, false, false] rfl rfl (any_of HT_.out (by kernel_rfl)) (fun _ _ _ h => h) (Or.inl ⟨by rfl, ?_⟩) ?_ ?_
                                  rotate_left
                                  · intro w'
                                    go_simp
                                    with_reducible rfl
                                  rotate_left
                                  · simp only [Act.put, List.setIfInBounds_toArray, List.set_cons_zero, List.set_cons_succ, i64_w, i32_w]
                                    rfl
                                  refine pure_ (i := 2) (N := some 54) (v := ?_) (a' := ?_) #[true, true, true, false, false, false, false, false, false, false, false, false, false, false, false, false, false, false, false, false, false, false, false, false] rfl rfl (any_of HT_.out (by kernel_rfl)) (fun _ _ _ h => h) (Or.inl ⟨by rfl, ?_⟩) ?_ ?_
                                  rotate_left
                                  · intro w'
                                    go_simp
                                    with_reducible rfl
                                  rotate_left
                                  · simp only [Act.put, List.setIfInBounds_toArray, List.set_cons_zero, List.set_cons_succ, i64_w, i32_w]
                                    rfl
                                  refine pure_ (i := 3) (N := some 55) (v := ?_) (a' := ?_) #[true, true, true, true, false, false, false, false, false, false, false, false, false, false, false, false, false, false, false, false, false, false, false, false] rfl rfl (any_of HT_.out (by kernel_rfl)) (fun _ _ _ h => h) (Or.inl ⟨by rfl, ?_⟩) ?_ ?_
                                  rotate_left
                                  · intro w'
                                    go_simp
                                    with_reducible rfl
                                  rotate_left
                                  · simp only [Act.put, List.setIfInBounds_toArray, List.set_cons_zero, List.set_cons_succ, i64_w, i32_w]
                                    rfl
                                  refine pure_ (i := 5) (N := some 57) (v := ?_) (a' := ?_) #[true, true, true, true, false, true, false, false, false, false, false, false, false, false, false, false, false, false, false, false, false, false, false, false] rfl rfl (any_of HT_.out (by kernel_rfl)) (fun _ _ _ h => h) (Or.inl ⟨by rfl, ?_⟩) ?_ ?_
                                  rotate_left
                                  · intro w'
                                    go_simp
                                    with_reducible rfl
                                  rotate_left
                                  · simp only [Act.put, List.setIfInBounds_toArray, List.set_cons_zero, List.set_cons_succ, i64_w, i32_w]
                                    rfl
                                  refine pure_ (i := 6) (N := some 58) (v := ?_) (a' := ?_) #[true, true, true, true, false, true, true, false, false, false, false, false, false, false, false, false, false, false, false, false, false, false, false, false] rfl rfl (any_of HT_.out (by kernel_rfl)) (fun _ _ _ h => h) (Or.inl ⟨by rfl, ?_⟩) ?_ ?_
                                  rotate_left
                                  · intro w'
                                    go_simp
                                    with_reducible rfl
                                  rotate_left
                                  · simp only [Act.put, List.setIfInBounds_toArray, List.set_cons_zero, List.set_cons_succ, i64_w, i32_w]
                                    rfl
                                  refine pure_ (i := 7) (N := some 59) (v := ?_) (a' := ?_) #[true, true, true, true, false, true, true, true, false, false, false, false, false, false, false, false, false, false, false, false, false, false, false, false] rfl rfl (any_of HT_.out (by kernel_rfl)) (fun _ _ _ h => h) (Or.inl ⟨by rfl, ?_⟩) ?_ ?_
                                  rotate_left
                                  · intro w'
                                    go_simp
                                    with_reducible rfl
                                  rotate_left
                                  · simp only [Act.put, List.setIfInBounds_toArray, List.set_cons_zero, List.set_cons_succ, i64_w, i32_w]
                                    rfl
                                  refine pure_ (i := 8) (N := some 60) (v := ?_) (a' := ?_) #[true, true, true, true, false, true, true, true, true, false, false, false, false, false, false, false, false, false, false, false, false, false, false, false] rfl rfl (any_of HT_.out (by kernel_rfl)) (fun _ _ _ h => h) (Or.inl ⟨by rfl, ?_⟩) ?_ ?_
                                  rotate_left
                                  · intro w'
                                    go_simp
                                    with_reducible rfl
                                  rotate_left
                                  · simp only [Act.put, List.setIfInBounds_toArray, List.set_cons_zero, List.set_cons_succ, i64_w, i32_w]
                                    rfl
                                  refine take_ (i := 4) (N := some 56) (v := ?_) (a' := ?_) #[true, true, true, true, true, true, true, true, true, false, false, false, false, false, false, false, false, false, false, false, false, false, false, false] rfl rfl (take_ofW HT_.out HW_.out (by kernel_rfl)) (fun _ _ _ h => h) (Or.inl ⟨by rfl, ?_⟩) hHeld ?_ ?_
                                  rotate_left
                                  · rintro w' ⟨s0, s1, s2, s3, s4, s5⟩
                                    go_simp
                                    with_reducible rfl
                                  rotate_left
                                  · simp only [Act.put, List.setIfInBounds_toArray, List.set_cons_zero, List.set_cons_succ, i64_w, i32_w]
                                    rfl
                                  refine take_ (i := 9) (N := some 61) (v := ?_) (a' := ?_) #[true, true, true, true, true, true, true, true, true, true, false, false, false, false, false, false, false, false, false, false, false, false, false, false] rfl rfl (take_ofW HT_.out HW_.out (by kernel_rfl)) (fun _ _ _ h => h) (Or.inl ⟨by rfl, ?_⟩) hHeld ?_ ?_
                                  rotate_left
                                  · rintro w' ⟨s0, s1, s2, s3, s4, s5⟩
                                    go_simp
                                    with_reducible rfl
                                  rotate_left
                                  · simp only [Act.put, List.setIfInBounds_toArray, List.set_cons_zero, List.set_cons_succ, i64_w, i32_w]
                                    rfl
                                  refine pure_ (i := 10) (N := some 62) (v := ?_) (a' := ?_) #[true, true, true, true, true, true, true, true, true, true, true, false, false, false, false, false, false, false, false, false, false, false, false, false] rfl rfl (any_of HT_.out (by kernel_rfl)) (fun _ _ _ h => h) (Or.inl ⟨by rfl, ?_⟩) ?_ ?_
                                  rotate_left
                                  · intro w'
                                    go_simp
                                    with_reducible rfl
                                  rotate_left
                                  · simp only [Act.put, List.setIfInBounds_toArray, List.set_cons_zero, List.set_cons_succ, i64_w, i32_w]
                                    rfl
                                  refine pure_ (i := 11) (N := some 63) (v := ?_) (a' := ?_) #[true, true, true, true, true, true, true, true, true, true, true, true, false, false, false, false, false, false, false, false, false, false, false, false] rfl rfl (any_of HT_.out (by kernel_rfl)) (fun _ _ _ h => h) (Or.inl ⟨by rfl, ?_⟩) ?_ ?_
                                  rotate_left
                                  · intro w'
                                    go_simp
                                    with_reducible rfl
                                  rotate_left
                                  · simp only [Act.put, List.setIfInBounds_toArray, List.set_cons_zero, List.set_cons_succ, i64_w, i32_w]
                                    rfl
                                  refine pure_ (i := 12) (N := some 64) (v := undef) (a' := ?_) #[true, true, true, true, true, true, true, true, true, true, true, true, true, false, false, false, false, false, false, false, false, false, false, false] rfl rfl (any_of HT_.out (by kernel_rfl)) (fun _ _ _ h => h) (Or.inr ⟨by rfl, rfl⟩) ?_ ?_
                                  rotate_left
                                  · simp only [Act.put, List.setIfInBounds_toArray, List.set_cons_zero, List.set_cons_succ, i64_w, i32_w]
                                    rfl
                                  refine pure_ (i := 13) (N := some 65) (v := undef) (a' := ?_) #[true, true, true, true, true, true, true, true, true, true, true, true, true, true, false, false, false, false, false, false, false, false, false, false] rfl rfl (any_of HT_.out (by kernel_rfl)) (fun _ _ _ h => h) (Or.inr ⟨by rfl, rfl⟩) ?_ ?_
                                  rotate_left
                                  · simp only [Act.put, List.setIfInBounds_toArray, List.set_cons_zero, List.set_cons_succ, i64_w, i32_w]
                                    rfl
                                  refine pure_ (i := 14) (N := some 66) (v := undef) (a' := ?_) #[true, true, true, true, true, true, true, true, true, true, true, true, true, true, true, false, false, false, false, false, false, false, false, false] rfl rfl (any_of HT_.out (by kernel_rfl)) (fun _ _ _ h => h) (Or.inr ⟨by rfl, rfl⟩) ?_ ?_
                                  rotate_left
                                  · simp only [Act.put, List.setIfInBounds_toArray, List.set_cons_zero, List.set_cons_succ, i64_w, i32_w]
                                    rfl
                                  refine pure_ (i := 15) (N := some 67) (v := undef) (a' := ?_) #[true, true, true, true, true, true, true, true, true, true, true, true, true, true, true, true, false, false, false, false, false, false, false, false] rfl rfl (any_of HT_.out (by kernel_rfl)) (fun _ _ _ h => h) (Or.inr ⟨by rfl, rfl⟩) ?_ ?_
                                  rotate_left
                                  · simp only [Act.put, List.setIfInBounds_toArray, List.set_cons_zero, List.set_cons_succ, i64_w, i32_w]
                                    rfl
                                  refine pure_ (i := 16) (N := some 68) (v := undef) (a' := ?_) #[true, true, true, true, true, true, true, true, true, true, true, true, true, true, true, true, true, false, false, false, false, false, false, false] rfl rfl (any_of HT_.out (by kernel_rfl)) (fun _ _ _ h => h) (Or.inr ⟨by rfl, rfl⟩) ?_ ?_
                                  rotate_left
                                  · simp only [Act.put, List.setIfInBounds_toArray, List.set_cons_zero, List.set_cons_succ, i64_w, i32_w]
                                    rfl
                                  refine pure_ (i := 17) (N := some 69) (v := undef) (a' := ?_) #[true, true, true, true, true, true, true, true, true, true, true, true, true, true, true, true, true, true, false, false, false, false, false, false] rfl rfl (any_of HT_.out (by kernel_rfl)) (fun _ _ _ h => h) (Or.inr ⟨by rfl, rfl⟩) ?_ ?_
                                  rotate_left
                                  · simp only [Act.put, List.setIfInBounds_toArray, List.set_cons_zero, List.set_cons_succ, i64_w, i32_w]
                                    rfl
                                  refine pure_ (i := 18) (N := some 70) (v := undef) (a' := ?_) #[true, true, true, true, true, true, true, true, true, true, true, true, true, true, true, true, true, true, true, false, false, false, false, false] rfl rfl (any_of HT_.out (by kernel_rfl)) (fun _ _ _ h => h) (Or.inr ⟨by rfl, rfl⟩) ?_ ?_
                                  rotate_left
                                  · simp only [Act.put, List.setIfInBounds_toArray, List.set_cons_zero, List.set_cons_succ, i64_w, i32_w]
                                    rfl
                                  refine pure_ (i := 19) (N := some 71) (v := undef) (a' := ?_) #[true, true, true, true, true, true, true, true, true, true, true, true, true, true, true, true, true, true, true, true, false, false, false, false] rfl rfl (any_of HT_.out (by kernel_rfl)) (fun _ _ _ h => h) (Or.inr ⟨by rfl, rfl⟩) ?_ ?_
                                  rotate_left
                                  · simp only [Act.put, List.setIfInBounds_toArray, List.set_cons_zero, List.set_cons_succ, i64_w, i32_w]
                                    rfl
                                  refine pure_ (i := 20) (N := some 72) (v := undef) (a' := ?_) #[true, true, true, true, true, true, true, true, true, true, true, true, true, true, true, true, true, true, true, true, true, false, false, false] rfl rfl (any_of HT_.out (by kernel_rfl)) (fun _ _ _ h => h) (Or.inr ⟨by rfl, rfl⟩) ?_ ?_
                                  rotate_left
                                  · simp only [Act.put, List.setIfInBounds_toArray, List.set_cons_zero, List.set_cons_succ, i64_w, i32_w]
                                    rfl
                                  refine pure_ (i := 21) (N := some 73) (v := undef) (a' := ?_) #[true, true, true, true, true, true, true, true, true, true, true, true, true, true, true, true, true, true, true, true, true, true, false, false] rfl rfl (any_of HT_.out (by kernel_rfl)) (fun _ _ _ h => h) (Or.inr ⟨by rfl, rfl⟩) ?_ ?_
                                  rotate_left
                                  · simp only [Act.put, List.setIfInBounds_toArray, List.set_cons_zero, List.set_cons_succ, i64_w, i32_w]
                                    rfl
                                  refine pure_ (i := 22) (N := some 74) (v := undef) (a' := ?_) #[true, true, true, true, true, true, true, true, true, true, true, true, true, true, true, true, true, true, true, true, true, true, true, false] rfl rfl (any_of HT_.out (by kernel_rfl)) (fun _ _ _ h => h) (Or.inr ⟨by rfl, rfl⟩) ?_ ?_
                                  rotate_left
                                  · simp only [Act.put, List.setIfInBounds_toArray, List.set_cons_zero, List.set_cons_succ, i64_w, i32_w]
                                    rfl
                                  refine pure_ (i := 23) (N := some 75) (v := ?_) (a' := ?_) #[true, true, true, true, true, true, true, true, true, true, true, true, true, true, true, true, true, true, true, true, true, true, true, true] rfl rfl (any_of HT_.out (by kernel_rfl)) (fun _ _ _ h => h) (Or.inl ⟨by rfl, ?_⟩) ?_ ?_
                                  rotate_left
                                  · intro w'
                                    go_simp
                                    with_reducible rfl
                                  rotate_left
                                  · simp only [Act.put, List.setIfInBounds_toArray, List.set_cons_zero, List.set_cons_succ, i64_w, i32_w]
                                    rfl
                                  refine done_ (done_of HT_.out (by kernel_rfl)) ?_
                                  try go_wp2
                                  go_roundg k4
                                  case measure => have := HK1.out; have := HJ1.out; have := HJ4.out; have := HK4.out; omega
                                  case rel => exact ⟨(wrap64 (x4_4 + 1)), (by first | rfl | (simp; done) | (simp [*]; done)), H', ⟨by have := HK1.out; have := HJ1.out; have := HJ4.out; have := HK4.out; omega⟩, ⟨by repeat (first | (with_reducible first | exact HB.out | apply below_alloc | apply pw_below_drewN | apply below_drew1) | exact HB.out)⟩⟩
                              · rw [if_neg c25] at H
                                exact absurd H (by simp)
                            · rw [if_neg c24] at H
                              exact absurd H (by simp)
                          · rw [if_neg c23] at H
                            exact absurd H (by simp)
                        · rw [if_neg c22] at H
                          exact absurd H (by simp)
                      · rw [if_neg c21] at H
                        have c21b0 : decide (x4_4 < x3_1) = false := decide_eq_false c21
                        clear c21
                        have H' := Aside0.mk H
                        clear H
                        go_wp2
                        go_roundg k4
                        case measure => have := HK1.out; have := HJ1.out; have := HJ4.out; have := HK4.out; omega
                        case rel => exact ⟨(wrap64 (x3_1 + 1)), (by first | rfl | (simp; done) | (simp [*]; done)), H', ⟨by have := HK1.out; have := HJ1.out; have := HJ4.out; have := HK4.out; omega⟩, ⟨by repeat (first | (with_reducible first | exact HB.out | apply below_alloc | apply pw_below_drewN | apply below_drew1) | exact HB.out)⟩⟩
          · replace c4 := Bool.eq_false_iff.mpr c4
            subst c4
            have H1 : (some (decide ((l0.length : Int) ≤ 60))) = some r := by rw [if_neg (show ¬ (false = true) by decide)] at H; exact H
            clear H
            have H := H1
            clear H1
            obtain rfl := Option.some.inj H
            go_wp2
            go_ret
            exact ⟨by first | rfl | (simp [errW_none, errW_some] <;> rfl) | (simp [*, errW_none, errW_some] <;> rfl), by repeat (first | (with_reducible first | exact HB.out | apply below_alloc | apply pw_below_drewN | apply below_drew1) | exact HB.out)⟩

end Go.Proofs.YteeepenncddnjaaDoor.Q
end
