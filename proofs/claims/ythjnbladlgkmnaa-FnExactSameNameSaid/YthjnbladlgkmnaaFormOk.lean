/- Contracts of formOk and of the program's FormValid. -/
import Derived.Test.YthjnbladlgkmnaaValid
namespace Go.Proofs.Ythjnbladlgkmnaa
open Go.RowKit Go.Proofs.YthjnbladlgkmnaaW.PrintWords Go.Proofs.YthjnbladlgkmnaaW.PrintLast Go.Proofs.YthjnbladlgkmnaaW.PrintMore
set_option linter.unusedVariables false
set_option linter.unusedSimpArgs false
def LeftAt (w : World) (g : Nat) (L : Int) : Prop := w.heap[g]? = some (.cells #[.int .i64 L] 3 (0, 0))
def OkPost (n : Nat) (x : Fm) (L : Int) (g : Nat) (w0 : World) (e : Ending) (w' : World) : Prop :=
  ∃ b, e = .returned (.bool b) ∧ (b = true ↔ IsOk n x ∧ (x.size : Int) ≤ L) ∧ Below w0.heap.size w0 w' ∧ (b = true → LeftAt w' g (L - x.size))
theorem okPost_no {n : Nat} {x : Fm} {L : Int} {g : Nat} {w0 w' : World} (h : ¬ (IsOk n x ∧ (x.size : Int) ≤ L)) (hb : Below w0.heap.size w0 w') : OkPost n x L g w0 (.returned (.bool false)) w' :=
  ⟨false, rfl, ⟨(fun h => nomatch h), (fun h2 => absurd h2 h)⟩, hb, (fun h => nomatch h)⟩
theorem okPost_yes {n : Nat} {x : Fm} {L : Int} {g : Nat} {w0 w' : World} (h : IsOk n x ∧ (x.size : Int) ≤ L) (hb : Below w0.heap.size w0 w') (hl : LeftAt w' g (L - x.size)) : OkPost n x L g w0 (.returned (.bool true)) w' :=
  ⟨true, rfl, ⟨fun _ => h, fun _ => rfl⟩, hb, fun _ => hl⟩
set_option maxHeartbeats 8000000 in
set_option maxRecDepth 100000 in
theorem formOk_any : ∀ (n : Nat) (x : Fm) (A3 : Option Addr) (c3 : Nat) (A4 : Option Addr) (c4 : Nat) (d L : Int) (g : Nat) (w0 w : World), d + n = 41 → 1 ≤ d → 0 ≤ L → L ≤ 400 → x.tot ≤ 1048576 → FmIn w0 x A3 c3 A4 c4 → Below w0.heap.size w0 w → w0.heap.size ≤ g → LeftAt w g L →
    Calls Try.prog 126 #[.agg #[.int .i64 x.kind, .string x.name, .int .i64 x.num, .slice A3 x.sc.length c3, .slice A4 x.kids.length c4], .int .i64 d, .pointer (some ⟨g, 0, none⟩)] w (OkPost n x L g w0) := by
  intro n
  induction n with
  | zero =>
    intro x A3 c3 A4 c4 d L g w0 w hd hd1 hL0 hL1 ht hin hb hg hl
    have hgw : g < w.heap.size := by
      rcases Nat.lt_or_ge g w.heap.size with h | h
      · exact h
      · unfold LeftAt at hl; rw [Array.getElem?_eq_none h] at hl; cases hl
    have ka := blk_below hl (below_new w (.cells #[.int .i64 x.kind, .string x.name, .int .i64 x.num, .slice A3 x.sc.length c3, .slice A4 x.kids.length c4] 34))
    have hk0 := (blk_cell ka 0).trans (show _ = some (Value.int .i64 L) from rfl)
    have hf0 := blk_frozen ka 0
    have ks := blk_below (blk_set hl 0 (.int .i64 (L - 1))) (below_new (w.setCell ⟨g, 0, none⟩ (.int .i64 (L - 1))) (.cells #[.int .i64 x.kind, .string x.name, .int .i64 x.num, .slice A3 x.sc.length c3, .slice A4 x.kids.length c4] 34))
    have hk1 := (blk_cell ks 0).trans (show _ = some (Value.int .i64 (L - 1)) from by simp)
    have HB := Lib.hid (below_step (Below.setCell hb (p := ⟨g, 0, none⟩) hg (.int .i64 (L - 1))) (below_new (w.setCell ⟨g, 0, none⟩ (.int .i64 (L - 1))) (.cells #[.int .i64 x.kind, .string x.name, .int .i64 x.num, .slice A3 x.sc.length c3, .slice A4 x.kids.length c4] 34)))
    have h40 : d > 40 := by omega
    have t2 : decide (d > 40) = true := decide_eq_true (by omega)
    have t2' : decide (40 < d) = true := decide_eq_true (by omega)
    clear hin ht hb hl ka ks hd
    by_cases h0 : L - 1 < 0
    · have t1 : decide (L - 1 < 0) = true := decide_eq_true h0
      clear h0
      go_enter Try.func126, Try.ntmps126
      go_wp2_with fail


      go_ret
      exact okPost_no (fun h => h.1) HB.out
    · have t1 : decide (L - 1 < 0) = false := decide_eq_false h0
      clear h0
      go_enter Try.func126, Try.ntmps126
      go_wp2_with fail
      go_ret
      exact okPost_no (fun h => h.1) HB.out
  | succ n ih =>
    intro x A3 c3 A4 c4 d L g w0 w hd hd1 hL0 hL1 ht hin hb hg hl
    have hgw : g < w.heap.size := by
      rcases Nat.lt_or_ge g w.heap.size with h | h
      · exact h
      · unfold LeftAt at hl; rw [Array.getElem?_eq_none h] at hl; cases hl
    have ka := blk_below hl (below_new w (.cells #[.int .i64 x.kind, .string x.name, .int .i64 x.num, .slice A3 x.sc.length c3, .slice A4 x.kids.length c4] 34))
    have hk0 := (blk_cell ka 0).trans (show _ = some (Value.int .i64 L) from rfl)
    have hf0 := blk_frozen ka 0
    have ks := blk_below (blk_set hl 0 (.int .i64 (L - 1))) (below_new (w.setCell ⟨g, 0, none⟩ (.int .i64 (L - 1))) (.cells #[.int .i64 x.kind, .string x.name, .int .i64 x.num, .slice A3 x.sc.length c3, .slice A4 x.kids.length c4] 34))
    have hk1 := (blk_cell ks 0).trans (show _ = some (Value.int .i64 (L - 1)) from by simp)
    have KS : LeftAt ((w.setCell ⟨g, 0, none⟩ (.int .i64 (L - 1))).alloc (.cells #[.int .i64 x.kind, .string x.name, .int .i64 x.num, .slice A3 x.sc.length c3, .slice A4 x.kids.length c4] 34)) g (L - 1) := by simpa [LeftAt] using ks
    have hz0 := blk_new (w.setCell ⟨g, 0, none⟩ (.int .i64 (L - 1))) (.cells #[.int .i64 x.kind, .string x.name, .int .i64 x.num, .slice A3 x.sc.length c3, .slice A4 x.kids.length c4] 34)
    rw [show (w.setCell ⟨g, 0, none⟩ (.int .i64 (L - 1))).heap.size = w.heap.size from by simp] at hz0
    have HB0 := below_step (Below.setCell hb (p := ⟨g, 0, none⟩) hg (.int .i64 (L - 1))) (below_new (w.setCell ⟨g, 0, none⟩ (.int .i64 (L - 1))) (.cells #[.int .i64 x.kind, .string x.name, .int .i64 x.num, .slice A3 x.sc.length c3, .slice A4 x.kids.length c4] 34))
    have HB := Lib.hid HB0
    have hsz := Fm.size_eq x
    have hmax := hin.g4.2.1
    by_cases h0 : L - 1 < 0
    · have t1 : decide (L - 1 < 0) = true := decide_eq_true h0
      have H0 := Lib.hid (show ¬ ((x.size : Int) ≤ L) by omega)
      clear h0 hin ht hb hl ka ks hd hsz hz0 HB0 ih KS
      go_enter Try.func126, Try.ntmps126
      go_wp2_with fail
      go_ret
      exact okPost_no (fun h => by have h1 := H0.out; have h2 := h.2; omega) HB.out
    have t1 : decide (L - 1 < 0) = false := decide_eq_false h0
    have hd40 : d ≤ 40 := by omega
    have t2 : decide (d > 40) = false := decide_eq_false (by omega)
    have t2' : decide (40 < d) = false := decide_eq_false (by omega)
    have HD := Lib.hid hd
    have HI := Lib.hid (hin.below HB0)
    have HI0 := Lib.hid hin
    have HT := Lib.hid ht
    have IH := Lib.hid ih
    have HSZ := Lib.hid hsz
    have HKS := Lib.hid KS
    have HZ0 := Lib.hid hz0
    have HNm := Lib.hid (implName_any x.name ((w.setCell ⟨g, 0, none⟩ (.int .i64 (L - 1))).alloc (.cells #[.int .i64 x.kind, .string x.name, .int .i64 x.num, .slice A3 x.sc.length c3, .slice A4 x.kids.length c4] 34)) (name_size ht))
    have HWi := Lib.hid (within_any x.num 0 999 ((w.setCell ⟨g, 0, none⟩ (.int .i64 (L - 1))).alloc (.cells #[.int .i64 x.kind, .string x.name, .int .i64 x.num, .slice A3 x.sc.length c3, .slice A4 x.kids.length c4] 34)))
    clear hd hin ht ih hsz KS ks hb hl ka HB0
    by_cases k1 : x.kind = 1
    · have e1 : (x.kind == 1) = true := by simpa using k1
      have K1 := Lib.hid k1
      clear k1 HWi hz0
      go_enter Try.func126, Try.ntmps126
      go_wp2_with fail
      refine HNm.out.mono ?_
      rintro e w1 ⟨rfl, hb1⟩
      have z1 := blk_below HZ0.out hb1
      have l1 := blk_below HKS.out hb1
      obtain ⟨p0, p1, p2, p3, p4⟩ := fm_cells z1
      have B1 := Lib.hid (below_step HB.out hb1)
      have HS := Lib.hid (scopesOk_any x.sc A3 c3 w1 (Kd.C_below HI0.out.g3 B1.out) HI0.out.l3)
      clear hb1
      cases hq : nmB x.name with
      | false =>
        have HQ := Lib.hid hq
        clear hq
        go_wp2_with fail
        go_ret
        exact okPost_no (fun h => by have := nmB_t ((isOk1 K1.out).1 h.1).1; rw [HQ.out] at this; cases this) B1.out
      | true =>
        have HQ := Lib.hid hq
        clear hq
        by_cases h2 : x.num = 0
        · have t3 : (x.num == 0) = true := by simpa using h2
          have H2 := Lib.hid h2
          clear h2
          go_wp2_with fail
          refine HS.out.mono ?_
          rintro e w2 ⟨rfl, hb2⟩
          have z2 := blk_below z1 hb2
          have L2 := Lib.hid (blk_below l1 hb2)
          have B2 := Lib.hid (below_step B1.out hb2)
          clear hb2 z1 l1 p0 p1 p2 p3 p4
          obtain ⟨p0, p1, p2, p3, p4⟩ := fm_cells z2
          cases hq : pB (ScOk x.sc) with
          | false =>
            have HQ2 := Lib.hid hq
            clear hq
            go_wp2_with fail
            go_ret
            exact okPost_no (fun h => by have := pB_yes ((isOk1 K1.out).1 h.1).2.2.1; rw [HQ2.out] at this; cases this) B2.out
          | true =>
            have HQ2 := Lib.hid hq
            clear hq
            by_cases h3 : x.kids.length = 0
            · have t4 : ((x.kids.length : Int) == 0) = true := by rw [beq_iff_eq]; omega
              have H3 := Lib.hid h3
              have H0 := Lib.hid h0
              clear h3 h0
              go_wp2_with fail
              go_ret
              have hs1 : x.size = 1 := by have h1 := HSZ.out; rw [List.length_eq_zero_iff.1 H3.out] at h1; exact h1
              have hc1 : (x.size : Int) = 1 := by omega
              exact okPost_yes ⟨(isOk1 K1.out).2 ⟨(nmB_iff _).1 HQ.out, H2.out, pB_iff.1 HQ2.out, H3.out⟩, by have := H0.out; omega⟩ B2.out (by rw [hc1]; exact L2.out)
            · have t4 : ((x.kids.length : Int) == 0) = false := by rw [beq_eq_false_iff_ne]; omega
              have H3 := Lib.hid h3
              clear h3
              go_wp2_with fail
              go_ret
              exact okPost_no (fun h => H3.out ((isOk1 K1.out).1 h.1).2.2.2) B2.out
        · have t3 : (x.num == 0) = false := by simpa using h2
          have H2 := Lib.hid h2
          clear h2
          go_wp2_with fail
          go_ret
          exact okPost_no (fun h => H2.out ((isOk1 K1.out).1 h.1).2.1) B1.out
    have e1 : (x.kind == 1) = false := by simpa using k1
    have K1 := Lib.hid k1
    clear k1 HNm
    obtain ⟨p0, p1, p2, p3, p4⟩ := fm_cells hz0
    by_cases k2 : x.kind = 2
    · have e2 : (x.kind == 2) = true := by simpa using k2
      have K2 := Lib.hid k2
      clear k2 hz0
      go_enter Try.func126, Try.ntmps126
      by_cases h1 : x.name.toList = []
      · have t3 : (x.name.toList == []) = true := by rw [h1]; rfl
        have H1 := Lib.hid h1
        clear h1
        go_wp2_with fail
        refine HWi.out.mono ?_
        rintro e w1 ⟨rfl, hb1⟩
        have z1 := blk_below HZ0.out hb1
        have L1 := Lib.hid (blk_below HKS.out hb1)
        have B1 := Lib.hid (below_step HB.out hb1)
        clear hb1 p0 p1 p2 p3 p4
        obtain ⟨p0, p1, p2, p3, p4⟩ := fm_cells z1
        by_cases h2 : 0 ≤ x.num ∧ x.num ≤ 999
        · rw [decide_eq_true h2]
          have H2 := Lib.hid h2
          clear h2
          by_cases h4 : x.sc.length = 0
          · have t4 : ((x.sc.length : Int) == 0) = true := by rw [beq_iff_eq]; omega
            have H4 := Lib.hid h4
            clear h4
            by_cases h5 : x.kids.length = 0
            · have t5 : ((x.kids.length : Int) == 0) = true := by rw [beq_iff_eq]; omega
              have H5 := Lib.hid h5
              have H0 := Lib.hid h0
              clear h5 h0
              go_wp2_with fail
              go_ret
              have hs1 : x.size = 1 := by have h1 := HSZ.out; rw [List.length_eq_zero_iff.1 H5.out] at h1; exact h1
              have hc1 : (x.size : Int) = 1 := by omega
              exact okPost_yes ⟨(isOk2 K2.out).2 ⟨H1.out, H2.out.1, H2.out.2, H4.out, H5.out⟩, by have := H0.out; omega⟩ B1.out (by rw [hc1]; exact L1.out)
            · have t5 : ((x.kids.length : Int) == 0) = false := by rw [beq_eq_false_iff_ne]; omega
              have H5 := Lib.hid h5
              clear h5
              go_wp2_with fail
              go_ret
              exact okPost_no (fun h => H5.out ((isOk2 K2.out).1 h.1).2.2.2.2) B1.out
          · have t4 : ((x.sc.length : Int) == 0) = false := by rw [beq_eq_false_iff_ne]; omega
            have H4 := Lib.hid h4
            clear h4
            go_wp2_with fail
            go_ret
            exact okPost_no (fun h => H4.out ((isOk2 K2.out).1 h.1).2.2.2.1) B1.out
        · rw [decide_eq_false h2]
          have H2 := Lib.hid h2
          clear h2
          go_wp2_with fail
          go_ret
          exact okPost_no (fun h => H2.out ⟨((isOk2 K2.out).1 h.1).2.1, ((isOk2 K2.out).1 h.1).2.2.1⟩) B1.out
      · have t3 : (x.name.toList == []) = false := by rw [beq_eq_false_iff_ne]; exact h1
        have H1 := Lib.hid h1
        clear h1
        go_wp2_with fail
        go_ret
        exact okPost_no (fun h => H1.out ((isOk2 K2.out).1 h.1).1) HB.out
    have e2 : (x.kind == 2) = false := by simpa using k2
    have K2 := Lib.hid k2
    clear k2 HWi
    by_cases k3 : x.kind = 3
    · have e3 : (x.kind == 3) = true := by simpa using k3
      have K3 := Lib.hid k3
      clear k3
      go_enter Try.func126, Try.ntmps126
      by_cases h1 : x.name.toList = []
      · have t3 : (x.name.toList != []) = false := by rw [h1]; rfl
        have t3' : (x.name.toList == []) = true := by rw [h1]; rfl
        have H1 := Lib.hid h1
        clear h1
        by_cases h2 : x.num = 0
        · have t4 : (x.num != 0) = false := by simpa using h2
          have H2 := Lib.hid h2
          clear h2
          by_cases h4 : x.sc.length = 0
          · have t5 : decide ((x.sc.length : Int) > 0) = false := decide_eq_false (by omega)
            have t5' : decide ((0 : Int) < (x.sc.length : Int)) = false := decide_eq_false (by omega)
            have t5'' : decide (0 < x.sc.length) = false := decide_eq_false (by omega)
            have H4 := Lib.hid h4
            clear h4
            go_wp2_with fail
            go_loopg [8, 86] x.kids.length (fun kq v8 v86 w' => ∃ i : Nat, i ≤ x.kids.length ∧ x.kids.length - i ≤ kq ∧ v86 = .int .i64 i ∧ Aside0 (∀ j (h : j < x.kids.length), j < i → IsOk n x.kids[j]) ∧ Aside0 (Below w0.heap.size w0 w') ∧ Aside0 (LeftAt w' g (L - 1 - sizes (x.kids.take i))) ∧ Aside0 (0 ≤ L - 1 - (sizes (x.kids.take i) : Int)))
            case atStart => exact ⟨0, Nat.zero_le _, by omega, rfl, ⟨fun j _ h => absurd h (by omega)⟩, ⟨HB.out⟩, ⟨by simpa [sizes] using HKS.out⟩, ⟨by simp [sizes]; omega⟩⟩
            case round =>
              obtain ⟨i, hi, hg2, rfl, HN, HW, HL, HP⟩ := hrel
              by_cases hlt : i < x.kids.length
              · obtain ⟨ad, G3, m3, G4, m4, e, g0, g1, g2, g3, g4, hk⟩ := kid_at HI0.out.g4 i hlt
                subst e
                have q0 := ck0 HW.out g0
                have q1 := ck0 HW.out g1
                have q2 := ck0 HW.out g2
                have q3 := ck0 HW.out g3
                have q4 := ck0 HW.out g4
                have hst := sizes_take x.kids i hlt
                have hle := sizes_take_le x.kids (i + 1)
                have hP := HP.out
                have hfr : w0.heap.size ≤ wr.heap.size := HW.out.size
                have HC := Lib.hid (IH.out x.kids[i] G3 m3 G4 m4 (d + 1) (L - 1 - (sizes (x.kids.take i) : Int)) g w0 (wr.alloc (.cells #[.int .i64 x.kids[i].kind, .string x.kids[i].name, .int .i64 x.kids[i].num, .slice G3 x.kids[i].sc.length m3, .slice G4 x.kids[i].kids.length m4] 34)) (by have := HD.out; omega) (by omega) hP (by omega) (kid_tot HT.out (List.getElem_mem hlt)) hk (below_step HW.out (below_new _ _)) hg (blk_below HL.out (below_new _ _)))
                have HST := Lib.hid hst
                have HLE := Lib.hid hle
                clear hk g0 g1 g2 g3 g4 hst hle hP hfr
                go_wp2_with fail
                refine HC.out.mono ?_
                intro e w1 hpost
                obtain ⟨b, rfl, hiff, hb1, hl1⟩ := hpost
                have HF := Lib.hid hiff
                have HB1 := Lib.hid hb1
                have HL1 := Lib.hid hl1
                clear hiff hb1 hl1
                cases b with
                | true =>
                  go_wp2_with fail
                  go_roundg (x.kids.length - (i + 1))
                  case measure => omega
                  case rel =>
                    have h1 := HST.out
                    have h2 := HF.out.1 (by simp)
                    have h3 := HL1.out (by simp)
                    refine ⟨i + 1, by omega, Nat.le_refl _, by go_num, ⟨fun j hj hji => ?_⟩, ⟨HB1.out⟩, ⟨?_⟩, ⟨by rw [h1]; omega⟩⟩
                    · rcases Nat.lt_or_ge j i with h | h
                      · exact HN.out j hj h
                      · obtain rfl : j = i := by omega
                        exact h2.1
                    · rw [h1, show L - 1 - ((sizes (x.kids.take i) + x.kids[i].size : Nat) : Int) = L - 1 - (sizes (x.kids.take i) : Int) - (x.kids[i].size : Int) from by omega]
                      exact h3
                | false =>
                  go_wp2_with fail
                  go_ret
                  refine okPost_no (fun h => ?_) HB1.out
                  have h1 := HF.out.2 ⟨((isOk3 K1.out K2.out).1 h.1).2.2.2.2 _ (List.getElem_mem hlt), by have h1 := HST.out; have h2 := HLE.out; have h3 := HSZ.out; have h4 := h.2; omega⟩
                  cases h1
              · obtain rfl : i = x.kids.length := by omega
                go_wp2_with fail
                go_ret
                have hsum : (x.size : Int) = 1 + (sizes x.kids : Int) := by have := HSZ.out; omega
                have hP := HP.out
                have hL := HL.out
                rw [List.take_length] at hP hL
                refine okPost_yes ⟨(isOk3 K1.out K2.out).2 ⟨K3.out, H1.out, H2.out, H4.out, fun k hk => ?_⟩, by omega⟩ HW.out (by rw [show L - (x.size : Int) = L - 1 - (sizes x.kids : Int) from by omega]; exact hL)
                obtain ⟨j, hj, rfl⟩ := List.getElem_of_mem hk
                exact HN.out j hj hj
          · have t5 : decide ((x.sc.length : Int) > 0) = true := decide_eq_true (by omega)
            have t5' : decide ((0 : Int) < (x.sc.length : Int)) = true := decide_eq_true (by omega)
            have t5'' : decide (0 < x.sc.length) = true := decide_eq_true (by omega)
            have H4 := Lib.hid h4
            clear h4
            go_wp2_with fail
            go_ret
            exact okPost_no (fun h => H4.out ((isOk3 K1.out K2.out).1 h.1).2.2.2.1) HB.out
        · have t4 : (x.num != 0) = true := by simpa using h2
          have H2 := Lib.hid h2
          clear h2
          go_wp2_with fail
          go_ret
          exact okPost_no (fun h => H2.out ((isOk3 K1.out K2.out).1 h.1).2.2.1) HB.out
      · have t3 : (x.name.toList != []) = true := by rw [bne_iff_ne]; exact h1
        have t3' : (x.name.toList == []) = false := by rw [beq_eq_false_iff_ne]; exact h1
        have H1 := Lib.hid h1
        clear h1
        go_wp2_with fail
        go_ret
        exact okPost_no (fun h => H1.out ((isOk3 K1.out K2.out).1 h.1).2.1) HB.out
    have e3 : (x.kind == 3) = false := by simpa using k3
    have K3 := Lib.hid k3
    clear k3
    go_enter Try.func126, Try.ntmps126
    go_wp2_with fail
    go_ret
    exact okPost_no (fun h => K3.out ((isOk3 K1.out K2.out).1 h.1).1) HB.out
theorem implValid_any (x : Fm) (A3 : Option Addr) (c3 : Nat) (A4 : Option Addr) (c4 : Nat) (w : World) (hin : FmIn w x A3 c3 A4 c4) (ht : x.tot ≤ 1048576) :
    Calls Try.prog 56 #[.agg #[.int .i64 x.kind, .string x.name, .int .i64 x.num, .slice A3 x.sc.length c3, .slice A4 x.kids.length c4]] w (Ret w (.bool (pB (FmOk x)))) := by
  have hb := below_step (below_new w (.cells #[.int .i64 x.kind, .string x.name, .int .i64 x.num, .slice A3 x.sc.length c3, .slice A4 x.kids.length c4] 34)) (below_new _ (.cells #[.int .i64 400] 3))
  have hl := blk_new (w.alloc (.cells #[.int .i64 x.kind, .string x.name, .int .i64 x.num, .slice A3 x.sc.length c3, .slice A4 x.kids.length c4] 34)) (.cells #[.int .i64 400] 3)
  rw [show (w.alloc (.cells #[.int .i64 x.kind, .string x.name, .int .i64 x.num, .slice A3 x.sc.length c3, .slice A4 x.kids.length c4] 34)).heap.size = w.heap.size + 1 from by simp] at hl
  have HC := Lib.hid (formOk_any 40 x A3 c3 A4 c4 1 400 (w.heap.size + 1) w _ (by omega) (by omega) (by omega) (by omega) ht hin hb (by omega) hl)
  clear hin ht hb hl
  go_enter Try.func56, Try.ntmps56
  go_wp2_with fail
  refine HC.out.mono ?_
  intro e w1 hpost
  obtain ⟨b, rfl, hiff, hb1, hl1⟩ := hpost
  have hv : b = pB (FmOk x) := pB_of ⟨fun h => ⟨(hiff.1 h).1, by have := (hiff.1 h).2; omega⟩, fun h => hiff.2 ⟨h.1, by have := h.2; omega⟩⟩
  have HV := Lib.hid hv
  have HB1 := Lib.hid hb1
  clear hiff hb1 hl1 hv HC
  go_wp2_with fail
  go_ret
  exact ⟨ret_b HV.out, HB1.out⟩
end Go.Proofs.Ythjnbladlgkmnaa
