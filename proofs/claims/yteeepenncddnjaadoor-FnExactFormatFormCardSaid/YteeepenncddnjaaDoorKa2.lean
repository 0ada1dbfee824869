/- Words for the laws' proofs (part 2): contracts of functions, and plain lemmas. -/
import Derived.Deep.RegionHeld3
import Derived.Deep.Slices
import Derived.Ground.Names2Prog
import Derived.KernelRfl
import Derived.Laws.IdiomStrings
import Derived.Lib.ItoaNum
import Derived.Lib.Join
import Derived.Lib.LazyBuf
import Derived.Lib.SliceRun
import Derived.Lib.SmallJoins
import Derived.OpenShut
import Derived.ProofKit
import Derived.Shelf.Abstract
import Derived.Shelf.Slices.Empties
import Derived.Shelf.Slices.SearchI
import Derived.Shelf.Spec.SlicesInsertGrow
import Derived.Test.YteeepenncddnjaaDoorProg
import Derived.Test.YteeepenncddnjaaDoorKa1
section
namespace Go.Proofs.YteeepenncddnjaaDoor
open Go.RowKit Go.Proofs.YteeepenncddnjaaDoorW.PrintWords Go.Proofs.YteeepenncddnjaaDoorW.PrintLast Go.Proofs.YteeepenncddnjaaDoorW.PrintMore
set_option linter.unusedVariables false
set_option linter.unusedSimpArgs false
def IsOk : Nat → Fm → Prop
  | 0, _ => False
  | n + 1, x => (x.f0 = 1 ∧ NmOk x.f1 ∧ x.f2 = 0 ∧ ScOk x.f3 ∧ x.f4.length = 0) ∨ (x.f0 = 2 ∧ x.f1.toList = [] ∧ 0 ≤ x.f2 ∧ x.f2 ≤ 999 ∧ x.f3.length = 0 ∧ x.f4.length = 0) ∨ (x.f0 = 3 ∧ x.f1.toList = [] ∧ x.f2 = 0 ∧ x.f3.length = 0 ∧ ∀ k, k ∈ x.f4 → IsOk n k)
theorem isOk1 {n : Nat} {x : Fm} (h : x.f0 = 1) : IsOk (n + 1) x ↔ NmOk x.f1 ∧ x.f2 = 0 ∧ ScOk x.f3 ∧ x.f4.length = 0 := by
  unfold IsOk
  constructor
  · rintro (⟨_, h⟩ | ⟨h2, _⟩ | ⟨h2, _⟩)
    · exact h
    · omega
    · omega
  · exact fun h2 => .inl ⟨h, h2⟩
theorem isOk2 {n : Nat} {x : Fm} (h : x.f0 = 2) : IsOk (n + 1) x ↔ x.f1.toList = [] ∧ 0 ≤ x.f2 ∧ x.f2 ≤ 999 ∧ x.f3.length = 0 ∧ x.f4.length = 0 := by
  unfold IsOk
  constructor
  · rintro (⟨h2, _⟩ | ⟨_, h⟩ | ⟨h2, _⟩)
    · omega
    · exact h
    · omega
  · exact fun h2 => .inr (.inl ⟨h, h2⟩)
theorem isOk3 {n : Nat} {x : Fm} (h1 : x.f0 ≠ 1) (h2 : x.f0 ≠ 2) : IsOk (n + 1) x ↔ x.f0 = 3 ∧ x.f1.toList = [] ∧ x.f2 = 0 ∧ x.f3.length = 0 ∧ ∀ k, k ∈ x.f4 → IsOk n k := by
  conv => lhs; unfold IsOk
  constructor
  · rintro (⟨h, _⟩ | ⟨h, _⟩ | h)
    · exact absurd h h1
    · exact absurd h h2
    · exact h
  · exact fun h => .inr (.inr h)
theorem name_size {x : Fm} (h : x.tot ≤ 1048576) : x.f1.size ≤ 140737488351232 := by rw [Fm.tot_eq] at h; omega
theorem kid_tot {x k : Fm} (h : x.tot ≤ 1048576) (hk : k ∈ x.f4) : k.tot ≤ 1048576 := by
  have := totL_mem hk
  rw [Fm.tot_eq] at h
  omega
set_option maxHeartbeats 4000000 in
set_option maxRecDepth 100000 in
theorem l1Is_any : ∀ (n : Nat) (x : Fm) (A3 : Option Addr) (c3 : Nat) (A4 : Option Addr) (c4 : Nat) (m : Int) (w : World), m = n → n ≤ 1000 → FmIn w x A3 c3 A4 c4 → x.tot ≤ 1048576 →
    Calls Tryd.prog 66 #[.agg #[.int .i64 x.f0, .string x.f1, .int .i64 x.f2, .slice A3 x.f3.length c3, .slice A4 x.f4.length c4], .int .i64 m] w (Ret w (.bool (pB (IsOk n x)))) := by
  intro n
  induction n with
  | zero =>
    intro x A3 c3 A4 c4 m w hm hn hin ht
    have tm : (m == 0) = true := by rw [beq_iff_eq]; omega
    clear hin ht hm
    go_enter Tryd.func66, Tryd.ntmps66
    go_wp2_with fail
    go_ret
    exact ⟨ret_b (pB_no (fun h => h)), below_new w _⟩
  | succ n ih =>
    intro x A3 c3 A4 c4 m w hm hn hin ht
    have tm : (m == 0) = false := by rw [beq_eq_false_iff_ne]; omega
    have m1 : -1000 ≤ m := by omega
    have m2 : m ≤ 1001 := by omega
    have HM := Lib.hid hm
    have HI := Lib.hid hin
    have HT := Lib.hid ht
    have IH := Lib.hid ih
    have hmax := hin.g4.2.1
    have HN := Lib.hid (specName_any x.f1 (w.alloc (.cells #[.int .i64 x.f0, .string x.f1, .int .i64 x.f2, .slice A3 x.f3.length c3, .slice A4 x.f4.length c4] 26)) (name_size ht))
    clear hm hin ht ih hn
    by_cases k1 : x.f0 = 1
    · have e1 : (x.f0 == 1) = true := by simpa using k1
      have K1 := Lib.hid k1
      clear k1
      go_enter Tryd.func66, Tryd.ntmps66
      go_wp2_with fail
      refine HN.out.mono ?_
      rintro e w1 ⟨rfl, hb1⟩
      obtain ⟨z1, b1⟩ := one_new hb1
      obtain ⟨p0, p1, p2, p3, p4⟩ := fm_cells z1
      have B1 := Lib.hid b1
      have HS := Lib.hid (l1Scopes_any x.f3 A3 c3 w1 (Kd.C_below HI.out.g3 b1) HI.out.l3)
      clear hb1 b1
      cases hq : nmB x.f1 with
      | false =>
        have HQ := Lib.hid hq
        clear hq
        go_wp2_with fail
        go_ret
        exact ⟨ret_b (pB_no (fun h => by have := nmB_t ((isOk1 K1.out).1 h).1; rw [HQ.out] at this; cases this)), B1.out⟩
      | true =>
        have HQ := Lib.hid hq
        clear hq
        by_cases h2 : x.f2 = 0
        · have t2 : (x.f2 == 0) = true := by simpa using h2
          have H2 := Lib.hid h2
          clear h2
          go_wp2_with fail
          refine HS.out.mono ?_
          rintro e w2 ⟨rfl, hb2⟩
          have z2 := blk_below z1 hb2
          have B2 := Lib.hid (below_step B1.out hb2)
          clear hb2 z1 p0 p1 p2 p3 p4
          obtain ⟨p0, p1, p2, p3, p4⟩ := fm_cells z2
          cases hq : pB (ScOk x.f3) with
          | false =>
            have HQ2 := Lib.hid hq
            clear hq
            go_wp2_with fail
            go_ret
            exact ⟨ret_b (pB_no (fun h => by have := pB_yes ((isOk1 K1.out).1 h).2.2.1; rw [HQ2.out] at this; cases this)), B2.out⟩
          | true =>
            have HQ2 := Lib.hid hq
            clear hq
            by_cases h3 : x.f4.length = 0
            · have t3 : ((x.f4.length : Int) == 0) = true := by rw [beq_iff_eq]; omega
              have H3 := Lib.hid h3
              clear h3
              go_wp2_with fail
              go_ret
              exact ⟨ret_b (pB_yes ((isOk1 K1.out).2 ⟨(nmB_iff _).1 HQ.out, H2.out, pB_iff.1 HQ2.out, H3.out⟩)), B2.out⟩
            · have t3 : ((x.f4.length : Int) == 0) = false := by rw [beq_eq_false_iff_ne]; omega
              have H3 := Lib.hid h3
              clear h3
              go_wp2_with fail
              go_ret
              exact ⟨ret_b (pB_no (fun h => H3.out ((isOk1 K1.out).1 h).2.2.2)), B2.out⟩
        · have t2 : (x.f2 == 0) = false := by simpa using h2
          have H2 := Lib.hid h2
          clear h2
          go_wp2_with fail
          go_ret
          exact ⟨ret_b (pB_no (fun h => H2.out ((isOk1 K1.out).1 h).2.1)), B1.out⟩
    · have e1 : (x.f0 == 1) = false := by simpa using k1
      have K1 := Lib.hid k1
      clear k1 HN
      by_cases k2 : x.f0 = 2
      · have e2 : (x.f0 == 2) = true := by simpa using k2
        have K2 := Lib.hid k2
        clear k2
        have B0 := Lib.hid (below_new w (.cells #[.int .i64 x.f0, .string x.f1, .int .i64 x.f2, .slice A3 x.f3.length c3, .slice A4 x.f4.length c4] 26))
        go_enter Tryd.func66, Tryd.ntmps66
        by_cases h1 : x.f1.toList = []
        · have t1 : (x.f1.toList == []) = true := by rw [h1]; rfl
          have H1 := Lib.hid h1
          clear h1
          by_cases h2 : 0 ≤ x.f2
          · have t2 : decide (x.f2 ≥ 0) = true := decide_eq_true h2
            have t2' : decide (0 ≤ x.f2) = true := decide_eq_true h2
            have H2 := Lib.hid h2
            clear h2
            by_cases h3 : x.f2 ≤ 999
            · have t3 : decide (x.f2 ≤ 999) = true := decide_eq_true h3
              have H3 := Lib.hid h3
              clear h3
              by_cases h4 : x.f3.length = 0
              · have t4 : ((x.f3.length : Int) == 0) = true := by rw [beq_iff_eq]; omega
                have H4 := Lib.hid h4
                clear h4
                by_cases h5 : x.f4.length = 0
                · have t5 : ((x.f4.length : Int) == 0) = true := by rw [beq_iff_eq]; omega
                  have H5 := Lib.hid h5
                  clear h5
                  go_wp2_with fail
                  go_ret
                  exact ⟨ret_b (pB_yes ((isOk2 K2.out).2 ⟨H1.out, H2.out, H3.out, H4.out, H5.out⟩)), B0.out⟩
                · have t5 : ((x.f4.length : Int) == 0) = false := by rw [beq_eq_false_iff_ne]; omega
                  have H5 := Lib.hid h5
                  clear h5
                  go_wp2_with fail
                  go_ret
                  exact ⟨ret_b (pB_no (fun h => H5.out ((isOk2 K2.out).1 h).2.2.2.2)), B0.out⟩
              · have t4 : ((x.f3.length : Int) == 0) = false := by rw [beq_eq_false_iff_ne]; omega
                have H4 := Lib.hid h4
                clear h4
                go_wp2_with fail
                go_ret
                exact ⟨ret_b (pB_no (fun h => H4.out ((isOk2 K2.out).1 h).2.2.2.1)), B0.out⟩
            · have t3 : decide (x.f2 ≤ 999) = false := decide_eq_false h3
              have H3 := Lib.hid h3
              clear h3
              go_wp2_with fail
              go_ret
              exact ⟨ret_b (pB_no (fun h => by have h1 := H3.out; have h2 := ((isOk2 K2.out).1 h).2.2.1; omega)), B0.out⟩
          · have t2 : decide (x.f2 ≥ 0) = false := decide_eq_false h2
            have t2' : decide (0 ≤ x.f2) = false := decide_eq_false h2
            have H2 := Lib.hid h2
            clear h2
            go_wp2_with fail
            go_ret
            exact ⟨ret_b (pB_no (fun h => by have h1 := H2.out; have h2 := ((isOk2 K2.out).1 h).2.1; omega)), B0.out⟩
        · have t1 : (x.f1.toList == []) = false := by rw [beq_eq_false_iff_ne]; exact h1
          have H1 := Lib.hid h1
          clear h1
          go_wp2_with fail
          go_ret
          exact ⟨ret_b (pB_no (fun h => H1.out ((isOk2 K2.out).1 h).1)), B0.out⟩
      · have e2 : (x.f0 == 2) = false := by simpa using k2
        have K2 := Lib.hid k2
        clear k2
        by_cases k3 : x.f0 = 3
        · have e3 : (x.f0 != 3) = false := by simpa using k3
          have e3' : (x.f0 == 3) = true := by simpa using k3
          have K3 := Lib.hid k3
          clear k3
          have B0 := Lib.hid (below_new w (.cells #[.int .i64 x.f0, .string x.f1, .int .i64 x.f2, .slice A3 x.f3.length c3, .slice A4 x.f4.length c4] 26))
          obtain ⟨p0, p1, p2, p3, p4⟩ := fm_cells (blk_new w (.cells #[.int .i64 x.f0, .string x.f1, .int .i64 x.f2, .slice A3 x.f3.length c3, .slice A4 x.f4.length c4] 26))
          clear p0 p1 p2 p3
          go_enter Tryd.func66, Tryd.ntmps66
          by_cases h1 : x.f1.toList = []
          · have t1 : (x.f1.toList != []) = false := by rw [h1]; rfl
            have t1' : (x.f1.toList == []) = true := by rw [h1]; rfl
            have H1 := Lib.hid h1
            clear h1
            by_cases h2 : x.f2 = 0
            · have t2 : (x.f2 != 0) = false := by simpa using h2
              have H2 := Lib.hid h2
              clear h2
              by_cases h4 : x.f3.length = 0
              · have t4 : ((x.f3.length : Int) != 0) = false := by simp [h4]
                have t4' : ((x.f3.length : Int) == 0) = true := by rw [beq_iff_eq]; omega
                have H4 := Lib.hid h4
                clear h4
                go_wp2_with fail
                go_loopg [5] x.f4.length (fun kq v5 w' => ∃ i : Nat, i ≤ x.f4.length ∧ x.f4.length - i ≤ kq ∧ v5 = .int .i64 i ∧ Aside0 (∀ j (h : j < x.f4.length), j < i → IsOk n x.f4[j]) ∧ Aside0 (Below (w.alloc (.cells #[.int .i64 x.f0, .string x.f1, .int .i64 x.f2, .slice A3 x.f3.length c3, .slice A4 x.f4.length c4] 26)).heap.size (w.alloc (.cells #[.int .i64 x.f0, .string x.f1, .int .i64 x.f2, .slice A3 x.f3.length c3, .slice A4 x.f4.length c4] 26)) w'))
                case atStart => exact ⟨0, Nat.zero_le _, by omega, rfl, ⟨fun j _ h => absurd h (by omega)⟩, ⟨Below.refl _ _⟩⟩
                case round =>
                  obtain ⟨i, hi, hg, rfl, HN, HW⟩ := hrel
                  have q4 := ck0 HW.out p4
                  have HW0 := Lib.hid (below_step B0.out HW.out)
                  by_cases hlt : i < x.f4.length
                  · obtain ⟨ad, G3, m3, G4, m4, e, g0, g1, g2, g3, g4, hk⟩ := kid_at (Kd.C_below HI.out.g4 HW0.out) i hlt
                    subst e
                    have HC := Lib.hid (IH.out x.f4[i] G3 m3 G4 m4 (m - 1) wr (by have := HM.out; omega) (by have := HM.out; omega) hk (kid_tot HT.out (List.getElem_mem hlt)))
                    clear hk
                    go_wp2_with fail
                    refine HC.out.mono ?_
                    rintro e w1 ⟨rfl, hb1⟩
                    have HB1 := Lib.hid hb1
                    clear hb1
                    cases he : pB (IsOk n x.f4[i]) with
                    | true =>
                      have HE := Lib.hid he
                      clear he
                      go_wp2_with fail
                      go_roundg (x.f4.length - (i + 1))
                      case measure => omega
                      case rel =>
                        refine ⟨i + 1, by omega, Nat.le_refl _, by go_num, ⟨fun j hj hji => ?_⟩, ⟨below_step HW.out HB1.out⟩⟩
                        rcases Nat.lt_or_ge j i with h | h
                        · exact HN.out j hj h
                        · obtain rfl : j = i := by omega
                          exact pB_iff.1 HE.out
                    | false =>
                      have HE := Lib.hid he
                      clear he
                      go_wp2_with fail
                      go_ret
                      refine ⟨ret_b (pB_no (fun h => ?_)), below_step HW0.out HB1.out⟩
                      have := pB_yes (((isOk3 K1.out K2.out).1 h).2.2.2.2 _ (List.getElem_mem hlt))
                      rw [HE.out] at this
                      cases this
                  · obtain rfl : i = x.f4.length := by omega
                    go_wp2_with fail
                    go_ret
                    refine ⟨ret_b (pB_yes ((isOk3 K1.out K2.out).2 ⟨K3.out, H1.out, H2.out, H4.out, fun k hk => ?_⟩)), HW0.out⟩
                    obtain ⟨j, hj, rfl⟩ := List.getElem_of_mem hk
                    exact HN.out j hj hj
              · have t4 : ((x.f3.length : Int) != 0) = true := by rw [bne_iff_ne]; omega
                have t4' : ((x.f3.length : Int) == 0) = false := by rw [beq_eq_false_iff_ne]; omega
                have H4 := Lib.hid h4
                clear h4
                go_wp2_with fail
                go_ret
                exact ⟨ret_b (pB_no (fun h => by have h1 := H4.out; have h2 := ((isOk3 K1.out K2.out).1 h).2.2.2.1; omega)), B0.out⟩
            · have t2 : (x.f2 != 0) = true := by simpa using h2
              have H2 := Lib.hid h2
              clear h2
              go_wp2_with fail
              go_ret
              exact ⟨ret_b (pB_no (fun h => H2.out ((isOk3 K1.out K2.out).1 h).2.2.1)), B0.out⟩
          · have t1 : (x.f1.toList != []) = true := by rw [bne_iff_ne]; exact h1
            have t1' : (x.f1.toList == []) = false := by rw [beq_eq_false_iff_ne]; exact h1
            have H1 := Lib.hid h1
            clear h1
            go_wp2_with fail
            go_ret
            exact ⟨ret_b (pB_no (fun h => H1.out ((isOk3 K1.out K2.out).1 h).2.1)), B0.out⟩
        · have e3 : (x.f0 != 3) = true := by simpa using k3
          have e3' : (x.f0 == 3) = false := by simpa using k3
          have K3 := Lib.hid k3
          clear k3
          have B0 := Lib.hid (below_new w (.cells #[.int .i64 x.f0, .string x.f1, .int .i64 x.f2, .slice A3 x.f3.length c3, .slice A4 x.f4.length c4] 26))
          go_enter Tryd.func66, Tryd.ntmps66
          go_wp2_with fail
          go_ret
          exact ⟨ret_b (pB_no (fun h => K3.out ((isOk3 K1.out K2.out).1 h).1)), B0.out⟩
def FmOk (x : Fm) : Prop := IsOk 40 x ∧ x.size ≤ 400
theorem specValid_any (x : Fm) (A3 : Option Addr) (c3 : Nat) (A4 : Option Addr) (c4 : Nat) (w : World) (hin : FmIn w x A3 c3 A4 c4) (ht : x.tot ≤ 1048576) :
    Calls Tryd.prog 39 #[.agg #[.int .i64 x.f0, .string x.f1, .int .i64 x.f2, .slice A3 x.f3.length c3, .slice A4 x.f4.length c4]] w (Ret w (.bool (pB (FmOk x)))) := by
  have hb := below_new w (.cells #[.int .i64 x.f0, .string x.f1, .int .i64 x.f2, .slice A3 x.f3.length c3, .slice A4 x.f4.length c4] 26)
  have HI := Lib.hid (l1Is_any 40 x A3 c3 A4 c4 40 _ rfl (by omega) (hin.below hb) ht)
  have hsz : x.size < 4611686018427387904 := by have := sizes_totL x; omega
  have HS := Lib.hid (fun W hb => l1Count_any x A3 c3 A4 c4 W (hin.below hb) hsz)
  clear hb hin
  go_enter Tryd.func39, Tryd.ntmps39
  go_wp2_with fail
  refine HI.out.mono ?_
  rintro e w1 ⟨rfl, hb1⟩
  obtain ⟨z1, b1⟩ := one_new hb1
  obtain ⟨p0, p1, p2, p3, p4⟩ := fm_cells z1
  have B1 := Lib.hid b1
  have HS1 := Lib.hid (HS.out _ b1)
  clear hb1 b1 HS
  cases hq : pB (IsOk 40 x) with
  | false =>
    have HQ := Lib.hid hq
    clear hq
    go_wp2_with fail
    go_ret
    exact ⟨ret_b (pB_no (fun h => by have := pB_yes h.1; rw [HQ.out] at this; cases this)), B1.out⟩
  | true =>
    have HQ := Lib.hid hq
    clear hq
    go_wp2_with fail
    refine HS1.out.mono ?_
    rintro e w2 ⟨rfl, hb2⟩
    have B2 := Lib.hid (below_step B1.out hb2)
    clear hb2
    by_cases h4 : x.size ≤ 400
    · have t1 : decide ((x.size : Int) ≤ 400) = true := decide_eq_true (by omega)
      have H4 := Lib.hid h4
      clear h4
      go_wp2_with fail
      go_ret
      exact ⟨ret_b (pB_yes ⟨pB_iff.1 HQ.out, H4.out⟩), B2.out⟩
    · have t1 : decide ((x.size : Int) ≤ 400) = false := decide_eq_false (by omega)
      have H4 := Lib.hid h4
      clear h4
      go_wp2_with fail
      go_ret
      exact ⟨ret_b (pB_no (fun h => by have h1 := H4.out; have h2 := h.2; omega)), B2.out⟩
end Go.Proofs.YteeepenncddnjaaDoor
end
section
namespace Go.Proofs.YteeepenncddnjaaDoor
open Go.RowKit Go.Proofs.YteeepenncddnjaaDoorW.PrintWords Go.Proofs.YteeepenncddnjaaDoorW.PrintLast Go.Proofs.YteeepenncddnjaaDoorW.PrintMore
set_option linter.unusedVariables false
set_option linter.unusedSimpArgs false
def B8 (l : List UInt8) : ByteArray := ⟨l.toArray⟩
theorem B8_toList (l : List UInt8) : (B8 l).data.toList = l := rfl
theorem B8_size (l : List UInt8) : (B8 l).size = l.length := by simp [B8, ByteArray.size]
theorem B8_ext {a b : ByteArray} (h : a.data.toList = b.data.toList) : a = b := by
  cases a; cases b; simp only [ByteArray.mk.injEq]; exact Array.toList_inj.1 h
theorem B8_append (a b : List UInt8) : B8 a ++ B8 b = B8 (a ++ b) := B8_ext (by simp [B8])
theorem B8_of (s : ByteArray) : B8 s.data.toList = s := B8_ext rfl
theorem B8_map (l : List (List UInt8)) : (l.map B8).map (·.data.toList) = l := by
  induction l with
  | nil => rfl
  | cons x r ih => simp only [List.map_cons, ih]; rfl
/-! Digits -/
theorem itoa_pos (n : Int) (h : 0 ≤ n) : Lib.itoa n = Lib.decDigits n.toNat := by unfold Lib.itoa; rw [if_neg (by omega)]
theorem decDigits_len : ∀ (k n : Nat), n < 10 ^ (k + 1) → (Lib.decDigits n).length ≤ k + 1
  | k, n, h => by
    by_cases h1 : n < 10
    · rw [Lib.decDigits, dif_pos h1]; simp
    · cases k with
      | zero => omega
      | succ k =>
        rw [Lib.decDigits, dif_neg h1]
        have := decDigits_len k (n / 10) (by rw [Nat.pow_succ] at h; omega)
        simp; omega
theorem itoa_len (n : Int) (h0 : 0 ≤ n) (h1 : n ≤ 999) : (Lib.itoa n).length ≤ 3 := by
  rw [itoa_pos n h0]; exact decDigits_len 2 n.toNat (by omega)
/-! Joining -/
theorem join_snoc (xs : List (List UInt8)) (y sep : List UInt8) (h : xs ≠ []) : Lib.join (xs ++ [y]) sep = Lib.join xs sep ++ sep ++ y := by
  cases xs with
  | nil => exact absurd rfl h
  | cons x r => rw [List.cons_append, Lib.join_cons, Lib.join_cons]; simp [Lib.joinTail, List.append_assoc]
def lens : List (List UInt8) → Nat
  | [] => 0
  | x :: r => x.length + 1 + lens r
theorem join_len (xs : List (List UInt8)) (s : UInt8) : (Lib.join xs [s]).length ≤ lens xs := by
  cases xs with
  | nil => simp [Lib.join_nil, lens]
  | cons x r =>
    rw [Lib.join_cons]
    have : ∀ r, (Lib.joinTail [s] r).length = lens r := by
      intro r
      induction r with
      | nil => rfl
      | cons y r ih => simp only [Lib.joinTail, List.map_cons, List.flatten_cons, List.length_append, lens] at ih ⊢; rw [ih]; simp; omega
    rw [List.length_append, this]
    simp [lens]
theorem lens_append (a b : List (List UInt8)) : lens (a ++ b) = lens a + lens b := by
  induction a with
  | nil => simp [lens]
  | cons x r ih => simp only [List.cons_append, lens, ih]; omega
theorem lens_take (l : List (List UInt8)) (i : Nat) : lens (l.take i) ≤ lens l := by
  have h := lens_append (l.take i) (l.drop i)
  rw [List.take_append_drop] at h
  omega
/-! Texts -/
def digs (sc : List Int) : List (List UInt8) := sc.map Lib.itoa
def scT (sc : List Int) : List UInt8 := if sc.length = 0 then [] else 123 :: (Lib.join (digs sc) [44] ++ [125])
def nameT (s : ByteArray) (sc : List Int) : List UInt8 := s.data.toList ++ scT sc
mutual
def Fm.txt : Fm → List UInt8
  | ⟨k, s, n, sc, ks⟩ => if k = 2 then Lib.itoa n else if k = 1 then nameT s sc else 40 :: (Lib.join (txtL ks) [32] ++ [41])
def txtL : List Fm → List (List UInt8)
  | [] => []
  | k :: ks => k.txt :: txtL ks
end
theorem Fm.txt_eq (x : Fm) : x.txt = if x.f0 = 2 then Lib.itoa x.f2 else if x.f0 = 1 then nameT x.f1 x.f3 else 40 :: (Lib.join (txtL x.f4) [32] ++ [41]) := by cases x; simp only [Fm.txt]
theorem txtL_map (l : List Fm) : txtL l = l.map Fm.txt := by
  induction l with
  | nil => simp [txtL]
  | cons x r ih => simp only [txtL, ih, List.map_cons]
theorem txtL_len (l : List Fm) : (txtL l).length = l.length := by rw [txtL_map, List.length_map]
theorem txtL_take (l : List Fm) (i : Nat) (h : i < l.length) : (txtL l).take (i + 1) = (txtL l).take i ++ [l[i].txt] := by
  rw [List.take_succ_eq_append_getElem (by rw [txtL_len]; exact h)]
  congr 2
  simp [txtL_map]
theorem digs_len (l : List Int) : (digs l).length = l.length := by simp [digs]
theorem digs_take (l : List Int) (i : Nat) (h : i < l.length) : (digs l).take (i + 1) = (digs l).take i ++ [Lib.itoa l[i]] := by
  rw [List.take_succ_eq_append_getElem (by rw [digs_len]; exact h)]
  congr 2
  simp [digs]
theorem take_ne {α : Type} (l : List α) (i : Nat) (h : i < l.length) (h0 : i ≠ 0) : l.take i ≠ [] := by
  intro e
  have := congrArg List.length e
  rw [List.length_take, List.length_nil] at this
  omega
theorem lens_digs (sc : List Int) (h : ScOk sc) : lens (digs sc) ≤ 4 * sc.length := by
  have key : ∀ sc : List Int, (∀ x, x ∈ sc → 1 ≤ x ∧ x ≤ 99) → lens (digs sc) ≤ 4 * sc.length := by
    intro sc hs
    induction sc with
    | nil => simp [digs, lens]
    | cons y r ih =>
      have h1 := hs y List.mem_cons_self
      have h2 := itoa_len y (by omega) (by omega)
      have h3 := ih (fun x hx => hs x (List.mem_cons_of_mem _ hx))
      simp only [digs, List.map_cons, lens, List.length_cons] at h3 ⊢
      omega
  refine key sc (fun x hx => ?_)
  obtain ⟨i, hi, rfl⟩ := List.getElem_of_mem hx
  have := h.2 i hi
  omega
theorem nmOk_sz12 {s : ByteArray} (h : NmOk s) : s.size ≤ 12 := by
  rcases h with h | h | h
  · have := congrArg List.length h; rw [ByteArray.toList_eq, Array.length_toList] at this; have e : s.size = s.data.size := rfl; simp at this; omega
  · have := congrArg List.length h; rw [ByteArray.toList_eq, Array.length_toList] at this; have e : s.size = s.data.size := rfl; simp at this; omega
  · exact h.2.1
theorem nameT_len {s : ByteArray} {sc : List Int} (h1 : NmOk s) (h2 : ScOk sc) : (nameT s sc).length ≤ 110 := by
  have a := nmOk_sz12 h1
  have b := lens_digs sc h2
  have c := join_len (digs sc) 44
  have d := h2.1
  have e : s.data.toList.length = s.size := Array.length_toList
  unfold nameT scT
  split
  · simp; omega
  · simp; omega
/-- A form in order has a short text. -/
theorem txt_len : ∀ (n : Nat) (x : Fm), IsOk n x → x.txt.length + 1 ≤ 200 * x.size
  | 0, x, h => absurd h (fun h => h)
  | n + 1, x, h => by
    rw [Fm.txt_eq, Fm.size_eq]
    by_cases h1 : x.f0 = 2
    · rw [if_pos h1]
      have q := (isOk2 h1).1 h
      have := itoa_len x.f2 q.2.1 q.2.2.1
      omega
    · rw [if_neg h1]
      by_cases h2 : x.f0 = 1
      · rw [if_pos h2]
        have q := (isOk1 h2).1 h
        have := nameT_len q.1 q.2.2.1
        omega
      · rw [if_neg h2]
        have q := (isOk3 h2 h1).1 h
        have key : ∀ l : List Fm, (∀ k, k ∈ l → IsOk n k) → lens (txtL l) ≤ 200 * sizes l := by
          intro l hl
          induction l with
          | nil => simp [txtL, lens, sizes]
          | cons y r ih =>
            have := txt_len n y (hl y List.mem_cons_self)
            have := ih (fun k hk => hl k (List.mem_cons_of_mem _ hk))
            simp only [txtL, lens, sizes]
            omega
        have := key x.f4 q.2.2.2.2
        have := join_len (txtL x.f4) 32
        simp
        omega
theorem lens_txt {n : Nat} {l : List Fm} (hl : ∀ k, k ∈ l → IsOk n k) : lens (txtL l) ≤ 200 * sizes l := by
  induction l with
  | nil => simp [txtL, lens, sizes]
  | cons y r ih =>
    have := txt_len n y (hl y List.mem_cons_self)
    have := ih (fun k hk => hl k (List.mem_cons_of_mem _ hk))
    simp only [txtL, lens, sizes]
    omega
end Go.Proofs.YteeepenncddnjaaDoor
end
section
namespace Go.Proofs.YteeepenncddnjaaDoor.Q
open Go.RowKit Go.Proofs.YteeepenncddnjaaDoorW.PrintWords Go.Proofs.YteeepenncddnjaaDoorW.PrintLast Go.Proofs.YteeepenncddnjaaDoorW.PrintMore
attribute [local go_sem] max2_int min2_int max_two min_two max_three min_three max_four min_four   -- for this text's walks alone
set_option linter.unusedVariables false
set_option linter.unusedSimpArgs false

mutual
def spec_l15Dec.l0 : Nat → Int → ByteArray → Option (ByteArray)
  | 0, _, _ => none
  | k + 1, x0, x3 => if x0 > 9 then ((some (([(wrap64 (48 + (Int.tmod x0 10))) % 256] : List Int) : List Int)).bind fun y134 => (if (strOfNums y134).size + x3.size ≤ 9223372036854775807 then (spec_l15Dec.l0 k (wrap64 (Int.tdiv x0 10)) ((strOfNums y134) ++ x3)) else (none))) else ((some (([(wrap64 (48 + x0)) % 256] : List Int) : List Int)).bind fun y137 => (if (strOfNums y137).size + x3.size ≤ 9223372036854775807 then (some ((strOfNums y137) ++ x3)) else (none)))
def spec_l15Dec.f : Nat → Int → Option (ByteArray)
  | 0, _ => none
  | k + 1, a0 => if a0 < (-9223372036854775807) then (some (⟨#[45, 57, 50, 50, 51, 51, 55, 50, 48, 51, 54, 56, 53, 52, 55, 55, 53, 56, 48, 56]⟩ : ByteArray)) else (if a0 < 0 then ((spec_l15Dec.f k (wrap64 (-a0))).bind fun t133 => (if 1 + t133.size ≤ 9223372036854775807 then (some ((⟨#[45]⟩ : ByteArray) ++ t133)) else (none))) else (spec_l15Dec.l0 k a0 (⟨#[]⟩ : ByteArray)))
end
theorem spec_l15Dec.mono_l : ∀ k, (∀ y0, LeO (spec_l15Dec.f k y0) (spec_l15Dec.f (k + 1) y0)) ∧ (∀ y0 y1, LeO (spec_l15Dec.l0 k y0 y1) (spec_l15Dec.l0 (k + 1) y0 y1))
  | 0 => ⟨fun _ r h => by simp [spec_l15Dec.f] at h, fun _ _ r h => by simp [spec_l15Dec.l0] at h⟩
  | k + 1 => by
    obtain ⟨ih0, ih1⟩ := spec_l15Dec.mono_l k
    refine ⟨?_, ?_⟩
    · intro y0
      unfold spec_l15Dec.f
      repeat' first
      | (with_reducible exact ih0 _)
      | (with_reducible exact ih1 _ _)
      | (with_reducible exact LeO.refl _)
      | (with_reducible exact LeO.none _)
      | (with_reducible refine LeO.ite ?_ ?_)
      | (with_reducible refine LeO.bind ?_ (fun _ => ?_))
      | exact ih0 _
      | exact ih1 _ _
      | exact LeO.none _
      | refine LeO.ite ?_ ?_
      | refine LeO.bind ?_ (fun _ => ?_)
    · intro y0 y1
      unfold spec_l15Dec.l0
      repeat' first
      | (with_reducible exact ih0 _)
      | (with_reducible exact ih1 _ _)
      | (with_reducible exact LeO.refl _)
      | (with_reducible exact LeO.none _)
      | (with_reducible refine LeO.ite ?_ ?_)
      | (with_reducible refine LeO.bind ?_ (fun _ => ?_))
      | exact ih0 _
      | exact ih1 _ _
      | exact LeO.none _
      | refine LeO.ite ?_ ?_
      | refine LeO.bind ?_ (fun _ => ?_)
theorem spec_l15Dec.mono : ∀ a0 k, LeO (spec_l15Dec.f k a0) (spec_l15Dec.f (k + 1) a0) := by
  intro a0 k
  obtain ⟨ih0, ih1⟩ := spec_l15Dec.mono_l k
  exact ih0 a0
set_option maxHeartbeats 8000000 in
set_option maxRecDepth 100000 in
theorem spec_l15Dec.calls (k : Nat) : ∀ (a0 : Int) (r : ByteArray) (w : World) (h : spec_l15Dec.f k a0 = some r),
    Calls Tryd.prog 49 #[.int .i64 a0] w fun e w' => e = .returned (.string r) ∧ Below w.heap.size w w' := by
  induction k using Nat.strongRecOn with
  | _ k ih =>
  intro a0 r w h
  cases k with
  | zero => exact absurd h (by simp [spec_l15Dec.f])
  | succ k =>
  simp only [spec_l15Dec.f] at h
  have HB := Aside0.mk (Below.refl w.heap.size w)
  have H : (if a0 < (-9223372036854775807) then (some (⟨#[45, 57, 50, 50, 51, 51, 55, 50, 48, 51, 54, 56, 53, 52, 55, 55, 53, 56, 48, 56]⟩ : ByteArray)) else (if a0 < 0 then ((spec_l15Dec.f k (wrap64 (-a0))).bind fun t133 => (if 1 + t133.size ≤ 9223372036854775807 then (some ((⟨#[45]⟩ : ByteArray) ++ t133)) else (none))) else (spec_l15Dec.l0 k a0 (⟨#[]⟩ : ByteArray)))) = some r := h
  clear h
  by_cases c2 : a0 < (-9223372036854775807)
  · rw [if_pos c2] at H
    have c2b0 : decide (a0 < (-9223372036854775807)) = true := decide_eq_true c2
    clear c2
    obtain rfl := Option.some.inj H
    go_enter Tryd.func49, Tryd.ntmps49
    go_wp2
    go_ret
    exact ⟨by first | rfl | (simp [errW_none, errW_some] <;> rfl) | (simp [*, errW_none, errW_some] <;> rfl), by repeat (first | (with_reducible first | exact HB.out | apply below_alloc | apply pw_below_drewN | apply below_drew1) | exact HB.out)⟩
  · rw [if_neg c2] at H
    have c2b0 : decide (a0 < (-9223372036854775807)) = false := decide_eq_false c2
    clear c2
    by_cases c3 : a0 < 0
    · rw [if_pos c3] at H
      have c3b0 : decide (a0 < 0) = true := decide_eq_true c3
      clear c3
      replace H := Option.bind_eq_some_iff.mp H
      obtain ⟨t133, A40, H⟩ := H
      replace H : (if 1 + t133.size ≤ 9223372036854775807 then (some ((⟨#[45]⟩ : ByteArray) ++ t133)) else (none)) = some r := H
      have A4 := Aside0.mk A40
      clear A40
      by_cases c5 : 1 + t133.size ≤ 9223372036854775807
      · rw [if_pos c5] at H
        have c5b0 := eq_true c5
        have c5b1 : decide (1 + t133.size ≤ 9223372036854775807) = true := decide_eq_true c5
        try have c5b2 : (9223372036854775807 < 1 + t133.size) = False := eq_false (Nat.not_lt.2 c5)
        obtain rfl := Option.some.inj H
        go_enter Tryd.func49, Tryd.ntmps49
        go_wp2_with (first | ((with_reducible refine gate_callee (f := 49) rfl ?_); refine goesL_ (some 10) rfl rfl Tryd.func49 (by kernel_rfl) rfl #[.int .i64 (wrap64 (-a0))] rfl (by (try simp only [List.map_toArray, List.map_cons, List.map_nil]); first | done | rfl | (simp only [List.length_drop, List.length_take]; rfl)) ?_; (with_reducible refine (ih k (by omega) (wrap64 (-a0)) t133 _ A4.out).mono ?_); rintro e w6 ⟨rfl, hb⟩; refine ⟨_, rfl, ?_⟩; have n0_ := Aside0.mk (below_step (by repeat (first | (with_reducible first | exact HB.out | apply below_alloc | apply pw_below_drewN | apply below_drew1) | exact HB.out)) hb); clear HB; have HB := n0_; clear n0_; (try clear hb); (try clear hb2); (try clear hk); (try clear hi)))
        go_ret
        exact ⟨by first | rfl | (simp [errW_none, errW_some] <;> rfl) | (simp [*, errW_none, errW_some] <;> rfl), by repeat (first | (with_reducible first | exact HB.out | apply below_alloc | apply pw_below_drewN | apply below_drew1) | exact HB.out)⟩
      · rw [if_neg c5] at H
        exact absurd H (by simp)
    · rw [if_neg c3] at H
      have c3b0 : decide (a0 < 0) = false := decide_eq_false c3
      clear c3
      have H' := Aside0.mk H
      clear H
      go_enter Tryd.func49, Tryd.ntmps49
      go_wp2
      go_loopg [0, 3] k (fun kq v0 v3 w' => ∃ (x0_1 : Int) (x3_1 : ByteArray), v0 = .int .i64 x0_1 ∧ v3 = .string x3_1 ∧ Aside0 (spec_l15Dec.l0 kq x0_1 x3_1 = some r) ∧ Aside0 (kq ≤ k) ∧ Aside0 (Below w.heap.size w w'))
      case atStart => exact ⟨(a0), ((⟨#[]⟩ : ByteArray)), (by first | rfl | (simp; done) | (simp [*]; done)), (by first | rfl | (simp; done) | (simp [*]; done)), H', ⟨Nat.le_refl _⟩, ⟨by repeat (first | (with_reducible first | exact HB.out | apply below_alloc | apply pw_below_drewN | apply below_drew1) | exact HB.out)⟩⟩
      case round =>
        clear H'
        try clear c2
        try clear c2b0
        try clear p2
        try clear c3
        try clear c3b0
        try clear c4
        try clear c5
        try clear c5b0
        try clear c5b1
        try clear c5b2
        try clear p6
        obtain ⟨x0_1, x3_1, rfl, rfl, HA, HK1, HB⟩ := hrel
        cases gk with
        | zero => exact absurd HA.out (by simp [spec_l15Dec.l0])
        | succ k1 =>
          have H := HA.out
          clear HA
          simp only [spec_l15Dec.l0] at H
          by_cases c7 : x0_1 > 9
          · rw [if_pos c7] at H
            have c7b0 : decide (9 < x0_1) = true := decide_eq_true c7
            clear c7
            obtain ⟨y134, hy134⟩ : ∃ y_ : List Int, y_ = (([(wrap64 (48 + (Int.tmod x0_1 10))) % 256] : List Int)) := ⟨_, rfl⟩
            replace H : (if (strOfNums y134).size + x3_1.size ≤ 9223372036854775807 then (spec_l15Dec.l0 k1 (wrap64 (Int.tdiv x0_1 10)) ((strOfNums y134) ++ x3_1)) else (none)) = some r := by first | (rw [hy134]; with_reducible exact H) | (have H2_ := (Option.bind_some _ _).symm.trans H; rw [hy134]; with_reducible exact H2_) | (have H2_ := (Option.bind_some _ _).symm.trans H; with_reducible exact H2_) | with_reducible exact H | (rw [hy134]; exact H) | exact H
            have Ny134 := Aside0.mk hy134
            clear hy134
            by_cases c8 : (strOfNums y134).size + x3_1.size ≤ 9223372036854775807
            · rw [if_pos c8] at H
              have c8b0 := eq_true c8
              have c8b1 : decide ((strOfNums y134).size + x3_1.size ≤ 9223372036854775807) = true := decide_eq_true c8
              try have c8b2 : (9223372036854775807 < (strOfNums y134).size + x3_1.size) = False := eq_false (Nat.not_lt.2 c8)
              have H' := Aside0.mk H
              clear H
              go_wp2_with (first | ((with_reducible refine gate_dst (N := 18) rfl ?_); refine Kd.R_lit (Kd.int .u8) _ 5 ?hg (N := 18) ?hd (xs := ([(wrap64 (48 + (Int.tmod x0_1 10))) % 256] : List Int)) (inner := [.int .u8 ((wrap64 (48 + (Int.tmod x0_1 10))) % 256)]) (ok := fun _ => True) (okp := fun _ => True) ?hr ?hp (fun _ hk => hk) trivial (Below.refl _ _) (Nat.le_refl _) (by simp) ?_; (case hd => rfl); (case hg => rfl); (case hr => first | (go_simp; done) | (go_simp; rfl)); (case hp => exact (Reps.one (show Kd.M (Kd.int .u8) _ _ _ ((wrap64 (48 + (Int.tmod x0_1 10))) % 256) [.int .u8 ((wrap64 (48 + (Int.tmod x0_1 10))) % 256)] from rfl) (Reps.none _ _))); intro v135 w9 ho10 hb hg_ hnew_; clear hg_ hnew_; (first | rw [← Ny134.out] at ho10 | (simp only [Int.reduceToNat] at ho10; rw [← Ny134.out] at ho10)); have n0_ := Aside0.mk (Kd.R_lower ho10 (below_size (by repeat (first | (with_reducible first | exact HB.out | apply below_alloc | apply pw_below_drewN | apply below_drew1) | exact HB.out)))); have n1_ := Aside0.mk (below_step (by repeat (first | (with_reducible first | exact HB.out | apply below_alloc | apply pw_below_drewN | apply below_drew1) | exact HB.out)) hb); clear HB; have HO136 := n0_; have HB := n1_; clear n0_ n1_; clear hb ho10; have hcv11 := own_string (P := Tryd.prog) Tryd.underlying22 Tryd.underlying5 Tryd.underlying9 (Kd.own_of_R HO136.out)))
              go_roundg k1
              case measure => have := HK1.out; omega
              case rel => exact ⟨(wrap64 (Int.tdiv x0_1 10)), ((strOfNums y134) ++ x3_1), (by first | rfl | (simp; done) | (simp [*]; done)), (by first | rfl | (simp; done) | (simp [*]; done)), H', ⟨by have := HK1.out; omega⟩, ⟨by repeat (first | (with_reducible first | exact HB.out | apply below_alloc | apply pw_below_drewN | apply below_drew1) | exact HB.out)⟩⟩
            · rw [if_neg c8] at H
              exact absurd H (by simp)
          · rw [if_neg c7] at H
            have c7b0 : decide (9 < x0_1) = false := decide_eq_false c7
            clear c7
            obtain ⟨y137, hy137⟩ : ∃ y_ : List Int, y_ = (([(wrap64 (48 + x0_1)) % 256] : List Int)) := ⟨_, rfl⟩
            replace H : (if (strOfNums y137).size + x3_1.size ≤ 9223372036854775807 then (some ((strOfNums y137) ++ x3_1)) else (none)) = some r := by first | (rw [hy137]; with_reducible exact H) | (have H2_ := (Option.bind_some _ _).symm.trans H; rw [hy137]; with_reducible exact H2_) | (have H2_ := (Option.bind_some _ _).symm.trans H; with_reducible exact H2_) | with_reducible exact H | (rw [hy137]; exact H) | exact H
            have Ny137 := Aside0.mk hy137
            clear hy137
            by_cases c12 : (strOfNums y137).size + x3_1.size ≤ 9223372036854775807
            · rw [if_pos c12] at H
              have c12b0 := eq_true c12
              have c12b1 : decide ((strOfNums y137).size + x3_1.size ≤ 9223372036854775807) = true := decide_eq_true c12
              try have c12b2 : (9223372036854775807 < (strOfNums y137).size + x3_1.size) = False := eq_false (Nat.not_lt.2 c12)
              obtain rfl := Option.some.inj H
              go_wp2_with (first | ((with_reducible refine gate_dst (N := 27) rfl ?_); refine Kd.R_lit (Kd.int .u8) _ 5 ?hg (N := 27) ?hd (xs := ([(wrap64 (48 + x0_1)) % 256] : List Int)) (inner := [.int .u8 ((wrap64 (48 + x0_1)) % 256)]) (ok := fun _ => True) (okp := fun _ => True) ?hr ?hp (fun _ hk => hk) trivial (Below.refl _ _) (Nat.le_refl _) (by simp) ?_; (case hd => rfl); (case hg => rfl); (case hr => first | (go_simp; done) | (go_simp; rfl)); (case hp => exact (Reps.one (show Kd.M (Kd.int .u8) _ _ _ ((wrap64 (48 + x0_1)) % 256) [.int .u8 ((wrap64 (48 + x0_1)) % 256)] from rfl) (Reps.none _ _))); intro v138 w13 ho14 hb hg_ hnew_; clear hg_ hnew_; (first | rw [← Ny137.out] at ho14 | (simp only [Int.reduceToNat] at ho14; rw [← Ny137.out] at ho14)); have n0_ := Aside0.mk (Kd.R_lower ho14 (below_size (by repeat (first | (with_reducible first | exact HB.out | apply below_alloc | apply pw_below_drewN | apply below_drew1) | exact HB.out)))); have n1_ := Aside0.mk (below_step (by repeat (first | (with_reducible first | exact HB.out | apply below_alloc | apply pw_below_drewN | apply below_drew1) | exact HB.out)) hb); clear HB; have HO139 := n0_; have HB := n1_; clear n0_ n1_; clear hb ho14; have hcv15 := own_string (P := Tryd.prog) Tryd.underlying22 Tryd.underlying5 Tryd.underlying9 (Kd.own_of_R HO139.out)))
              go_ret
              exact ⟨by first | rfl | (simp [errW_none, errW_some] <;> rfl) | (simp [*, errW_none, errW_some] <;> rfl), by repeat (first | (with_reducible first | exact HB.out | apply below_alloc | apply pw_below_drewN | apply below_drew1) | exact HB.out)⟩
            · rw [if_neg c12] at H
              exact absurd H (by simp)

end Go.Proofs.YteeepenncddnjaaDoor.Q
end
section
namespace Go.Proofs.YteeepenncddnjaaDoor
open Go.RowKit Go.Proofs.YteeepenncddnjaaDoorW.PrintWords Go.Proofs.YteeepenncddnjaaDoorW.PrintLast Go.Proofs.YteeepenncddnjaaDoorW.PrintMore
set_option linter.unusedVariables false
set_option linter.unusedSimpArgs false
theorem wr_nat (n : Nat) (h : n < 4611686018427387904) : wrap64 (n : Int) = (n : Int) := Go.IntWalk.wrap64_in _ ⟨by omega, by omega⟩
theorem one_byte {z : Int} (n : Nat) (hz : z = (n : Int)) (h : n < 256) : strOfNums [wrap64 z % 256] = B8 [UInt8.ofNat n] := by
  rw [hz, wr_nat n (by omega)]
  refine B8_ext ?_
  rw [strOfNums_data, B8_toList, List.map_cons, List.map_nil]
  congr 2
  omega
theorem decL : ∀ (k x : Nat) (acc : ByteArray), x < k → acc.size + x ≤ 1000000 → Q.spec_l15Dec.l0 k (x : Int) acc = some (B8 (Lib.decDigits x) ++ acc)
  | 0, x, acc, h, _ => absurd h (Nat.not_lt_zero x)
  | k + 1, x, acc, h, hs => by
    rw [Q.spec_l15Dec.l0]
    by_cases h1 : x < 10
    · rw [if_neg (by omega), Option.bind_some, one_byte (48 + x) (by omega) (by omega), if_pos (by rw [B8_size]; simp; omega), Lib.decDigits, dif_pos h1]
    · rw [if_pos (by omega), Option.bind_some, one_byte (48 + x % 10) (by rw [Int.tmod_eq_emod_of_nonneg (by omega)]; omega) (by omega), if_pos (by rw [B8_size]; simp; omega)]
      rw [show wrap64 (Int.tdiv (x : Int) 10) = ((x / 10 : Nat) : Int) from by rw [Int.tdiv_eq_ediv_of_nonneg (by omega), show (x : Int) / 10 = ((x / 10 : Nat) : Int) from by omega]; exact wr_nat _ (by omega)]
      rw [decL k (x / 10) _ (by omega) (by rw [ByteArray.size_append, B8_size]; simp; omega)]
      conv => rhs; rw [Lib.decDigits, dif_neg h1]
      rw [← B8_append, ByteArray.append_assoc]
theorem l15Dec_any (n : Int) (w : World) (h0 : 0 ≤ n) (h1 : n ≤ 999) : Calls Tryd.prog 49 #[.int .i64 n] w (Ret w (.string (B8 (Lib.itoa n)))) := by
  obtain ⟨m, rfl⟩ : ∃ m : Nat, n = m := ⟨n.toNat, by omega⟩
  refine Q.spec_l15Dec.calls 2000 (m : Int) _ w ?_
  rw [Q.spec_l15Dec.f, if_neg (by omega), if_neg (by omega), decL 1999 m _ (by omega) (by show (ByteArray.mk #[]).size + m ≤ 1000000; have : (ByteArray.mk #[]).size = 0 := rfl; omega), itoa_pos _ h0, Int.toNat_natCast]
  congr 1
  exact B8_append _ []|>.trans (by rw [List.append_nil])
end Go.Proofs.YteeepenncddnjaaDoor
end
section
namespace Go.Proofs.YteeepenncddnjaaDoor
open Go.RowKit Go.Proofs.YteeepenncddnjaaDoorW.PrintWords Go.Proofs.YteeepenncddnjaaDoorW.PrintLast Go.Proofs.YteeepenncddnjaaDoorW.PrintMore
set_option linter.unusedVariables false
set_option linter.unusedSimpArgs false
def LeftAt (w : World) (g : Nat) (L : Int) : Prop := w.heap[g]? = some (.cells #[.int .i64 L] 3 (0, 0))
def OkPost (n : Nat) (x : Fm) (L : Int) (g : Nat) (w0 : World) (e : Ending) (w' : World) : Prop :=
  ∃ b, e = .returned (.bool b) ∧ (b = true ↔ IsOk n x ∧ (x.size : Int) ≤ L) ∧ Below w0.heap.size w0 w' ∧ (b = true → LeftAt w' g (L - x.size))
theorem okPost_no {n : Nat} {x : Fm} {L : Int} {g : Nat} {w0 w' : World} (h : ¬ (IsOk n x ∧ (x.size : Int) ≤ L)) (hb : Below w0.heap.size w0 w') : OkPost n x L g w0 (.returned (.bool false)) w' :=
  ⟨false, rfl, ⟨(fun h => nomatch h), (fun h2 => absurd h2 h)⟩, hb, (fun h => nomatch h)⟩
theorem okPost_yes {n : Nat} {x : Fm} {L : Int} {g : Nat} {w0 w' : World} (h : IsOk n x ∧ (x.size : Int) ≤ L) (hb : Below w0.heap.size w0 w') (hl : LeftAt w' g (L - x.size)) : OkPost n x L g w0 (.returned (.bool true)) w' :=
  ⟨true, rfl, ⟨fun _ => h, fun _ => rfl⟩, hb, fun _ => hl⟩
set_option maxHeartbeats 8000000 in
set_option maxRecDepth 100000 in
theorem formOk_any : ∀ (n : Nat) (x : Fm) (A3 : Option Addr) (c3 : Nat) (A4 : Option Addr) (c4 : Nat) (d L : Int) (g : Nat) (w0 w : World), d + n = 41 → 1 ≤ d → 0 ≤ L → L ≤ 400 → x.tot ≤ 1048576 → FmIn w0 x A3 c3 A4 c4 → Below w0.heap.size w0 w → w0.heap.size ≤ g → LeftAt w g L →
    Calls Tryd.prog 36 #[.agg #[.int .i64 x.f0, .string x.f1, .int .i64 x.f2, .slice A3 x.f3.length c3, .slice A4 x.f4.length c4], .int .i64 d, .pointer (some ⟨g, 0, none⟩)] w (OkPost n x L g w0) := by
  intro n
  induction n with
  | zero =>
    intro x A3 c3 A4 c4 d L g w0 w hd hd1 hL0 hL1 ht hin hb hg hl
    have hgw : g < w.heap.size := by
      rcases Nat.lt_or_ge g w.heap.size with h | h
      · exact h
      · unfold LeftAt at hl; rw [Array.getElem?_eq_none h] at hl; cases hl
    have ka := blk_below hl (below_new w (.cells #[.int .i64 x.f0, .string x.f1, .int .i64 x.f2, .slice A3 x.f3.length c3, .slice A4 x.f4.length c4] 26))
    have hk0 := (blk_cell ka 0).trans (show _ = some (Value.int .i64 L) from rfl)
    have hf0 := blk_frozen ka 0
    have ks := blk_below (blk_set hl 0 (.int .i64 (L - 1))) (below_new (w.setCell ⟨g, 0, none⟩ (.int .i64 (L - 1))) (.cells #[.int .i64 x.f0, .string x.f1, .int .i64 x.f2, .slice A3 x.f3.length c3, .slice A4 x.f4.length c4] 26))
    have hk1 := (blk_cell ks 0).trans (show _ = some (Value.int .i64 (L - 1)) from by simp)
    have HB := Lib.hid (below_step (Below.setCell hb (p := ⟨g, 0, none⟩) hg (.int .i64 (L - 1))) (below_new (w.setCell ⟨g, 0, none⟩ (.int .i64 (L - 1))) (.cells #[.int .i64 x.f0, .string x.f1, .int .i64 x.f2, .slice A3 x.f3.length c3, .slice A4 x.f4.length c4] 26)))
    have h40 : d > 40 := by omega
    have t2 : decide (d > 40) = true := decide_eq_true (by omega)
    have t2' : decide (40 < d) = true := decide_eq_true (by omega)
    clear hin ht hb hl ka ks hd
    by_cases h0 : L - 1 < 0
    · have t1 : decide (L - 1 < 0) = true := decide_eq_true h0
      clear h0
      go_enter Tryd.func36, Tryd.ntmps36
      go_wp2_with fail


      go_ret
      exact okPost_no (fun h => h.1) HB.out
    · have t1 : decide (L - 1 < 0) = false := decide_eq_false h0
      clear h0
      go_enter Tryd.func36, Tryd.ntmps36
      go_wp2_with fail
      go_ret
      exact okPost_no (fun h => h.1) HB.out
  | succ n ih =>
    intro x A3 c3 A4 c4 d L g w0 w hd hd1 hL0 hL1 ht hin hb hg hl
    have hgw : g < w.heap.size := by
      rcases Nat.lt_or_ge g w.heap.size with h | h
      · exact h
      · unfold LeftAt at hl; rw [Array.getElem?_eq_none h] at hl; cases hl
    have ka := blk_below hl (below_new w (.cells #[.int .i64 x.f0, .string x.f1, .int .i64 x.f2, .slice A3 x.f3.length c3, .slice A4 x.f4.length c4] 26))
    have hk0 := (blk_cell ka 0).trans (show _ = some (Value.int .i64 L) from rfl)
    have hf0 := blk_frozen ka 0
    have ks := blk_below (blk_set hl 0 (.int .i64 (L - 1))) (below_new (w.setCell ⟨g, 0, none⟩ (.int .i64 (L - 1))) (.cells #[.int .i64 x.f0, .string x.f1, .int .i64 x.f2, .slice A3 x.f3.length c3, .slice A4 x.f4.length c4] 26))
    have hk1 := (blk_cell ks 0).trans (show _ = some (Value.int .i64 (L - 1)) from by simp)
    have KS : LeftAt ((w.setCell ⟨g, 0, none⟩ (.int .i64 (L - 1))).alloc (.cells #[.int .i64 x.f0, .string x.f1, .int .i64 x.f2, .slice A3 x.f3.length c3, .slice A4 x.f4.length c4] 26)) g (L - 1) := by simpa [LeftAt] using ks
    have hz0 := blk_new (w.setCell ⟨g, 0, none⟩ (.int .i64 (L - 1))) (.cells #[.int .i64 x.f0, .string x.f1, .int .i64 x.f2, .slice A3 x.f3.length c3, .slice A4 x.f4.length c4] 26)
    rw [show (w.setCell ⟨g, 0, none⟩ (.int .i64 (L - 1))).heap.size = w.heap.size from by simp] at hz0
    have HB0 := below_step (Below.setCell hb (p := ⟨g, 0, none⟩) hg (.int .i64 (L - 1))) (below_new (w.setCell ⟨g, 0, none⟩ (.int .i64 (L - 1))) (.cells #[.int .i64 x.f0, .string x.f1, .int .i64 x.f2, .slice A3 x.f3.length c3, .slice A4 x.f4.length c4] 26))
    have HB := Lib.hid HB0
    have hsz := Fm.size_eq x
    have hmax := hin.g4.2.1
    by_cases h0 : L - 1 < 0
    · have t1 : decide (L - 1 < 0) = true := decide_eq_true h0
      have H0 := Lib.hid (show ¬ ((x.size : Int) ≤ L) by omega)
      clear h0 hin ht hb hl ka ks hd hsz hz0 HB0 ih KS
      go_enter Tryd.func36, Tryd.ntmps36
      go_wp2_with fail
      go_ret
      exact okPost_no (fun h => by have h1 := H0.out; have h2 := h.2; omega) HB.out
    have t1 : decide (L - 1 < 0) = false := decide_eq_false h0
    have hd40 : d ≤ 40 := by omega
    have t2 : decide (d > 40) = false := decide_eq_false (by omega)
    have t2' : decide (40 < d) = false := decide_eq_false (by omega)
    have HD := Lib.hid hd
    have HI := Lib.hid (hin.below HB0)
    have HI0 := Lib.hid hin
    have HT := Lib.hid ht
    have IH := Lib.hid ih
    have HSZ := Lib.hid hsz
    have HKS := Lib.hid KS
    have HZ0 := Lib.hid hz0
    have HNm := Lib.hid (implName_any x.f1 ((w.setCell ⟨g, 0, none⟩ (.int .i64 (L - 1))).alloc (.cells #[.int .i64 x.f0, .string x.f1, .int .i64 x.f2, .slice A3 x.f3.length c3, .slice A4 x.f4.length c4] 26)) (name_size ht))
    have HWi := Lib.hid (within_any x.f2 0 999 ((w.setCell ⟨g, 0, none⟩ (.int .i64 (L - 1))).alloc (.cells #[.int .i64 x.f0, .string x.f1, .int .i64 x.f2, .slice A3 x.f3.length c3, .slice A4 x.f4.length c4] 26)))
    clear hd hin ht ih hsz KS ks hb hl ka HB0
    by_cases k1 : x.f0 = 1
    · have e1 : (x.f0 == 1) = true := by simpa using k1
      have K1 := Lib.hid k1
      clear k1 HWi hz0
      go_enter Tryd.func36, Tryd.ntmps36
      go_wp2_with fail
      refine HNm.out.mono ?_
      rintro e w1 ⟨rfl, hb1⟩
      have z1 := blk_below HZ0.out hb1
      have l1 := blk_below HKS.out hb1
      obtain ⟨p0, p1, p2, p3, p4⟩ := fm_cells z1
      have B1 := Lib.hid (below_step HB.out hb1)
      have HS := Lib.hid (scopesOk_any x.f3 A3 c3 w1 (Kd.C_below HI0.out.g3 B1.out) HI0.out.l3)
      clear hb1
      cases hq : nmB x.f1 with
      | false =>
        have HQ := Lib.hid hq
        clear hq
        go_wp2_with fail
        go_ret
        exact okPost_no (fun h => by have := nmB_t ((isOk1 K1.out).1 h.1).1; rw [HQ.out] at this; cases this) B1.out
      | true =>
        have HQ := Lib.hid hq
        clear hq
        by_cases h2 : x.f2 = 0
        · have t3 : (x.f2 == 0) = true := by simpa using h2
          have H2 := Lib.hid h2
          clear h2
          go_wp2_with fail
          refine HS.out.mono ?_
          rintro e w2 ⟨rfl, hb2⟩
          have z2 := blk_below z1 hb2
          have L2 := Lib.hid (blk_below l1 hb2)
          have B2 := Lib.hid (below_step B1.out hb2)
          clear hb2 z1 l1 p0 p1 p2 p3 p4
          obtain ⟨p0, p1, p2, p3, p4⟩ := fm_cells z2
          cases hq : pB (ScOk x.f3) with
          | false =>
            have HQ2 := Lib.hid hq
            clear hq
            go_wp2_with fail
            go_ret
            exact okPost_no (fun h => by have := pB_yes ((isOk1 K1.out).1 h.1).2.2.1; rw [HQ2.out] at this; cases this) B2.out
          | true =>
            have HQ2 := Lib.hid hq
            clear hq
            by_cases h3 : x.f4.length = 0
            · have t4 : ((x.f4.length : Int) == 0) = true := by rw [beq_iff_eq]; omega
              have H3 := Lib.hid h3
              have H0 := Lib.hid h0
              clear h3 h0
              go_wp2_with fail
              go_ret
              have hs1 : x.size = 1 := by have h1 := HSZ.out; rw [List.length_eq_zero_iff.1 H3.out] at h1; exact h1
              have hc1 : (x.size : Int) = 1 := by omega
              exact okPost_yes ⟨(isOk1 K1.out).2 ⟨(nmB_iff _).1 HQ.out, H2.out, pB_iff.1 HQ2.out, H3.out⟩, by have := H0.out; omega⟩ B2.out (by rw [hc1]; exact L2.out)
            · have t4 : ((x.f4.length : Int) == 0) = false := by rw [beq_eq_false_iff_ne]; omega
              have H3 := Lib.hid h3
              clear h3
              go_wp2_with fail
              go_ret
              exact okPost_no (fun h => H3.out ((isOk1 K1.out).1 h.1).2.2.2) B2.out
        · have t3 : (x.f2 == 0) = false := by simpa using h2
          have H2 := Lib.hid h2
          clear h2
          go_wp2_with fail
          go_ret
          exact okPost_no (fun h => H2.out ((isOk1 K1.out).1 h.1).2.1) B1.out
    have e1 : (x.f0 == 1) = false := by simpa using k1
    have K1 := Lib.hid k1
    clear k1 HNm
    obtain ⟨p0, p1, p2, p3, p4⟩ := fm_cells hz0
    by_cases k2 : x.f0 = 2
    · have e2 : (x.f0 == 2) = true := by simpa using k2
      have K2 := Lib.hid k2
      clear k2 hz0
      go_enter Tryd.func36, Tryd.ntmps36
      by_cases h1 : x.f1.toList = []
      · have t3 : (x.f1.toList == []) = true := by rw [h1]; rfl
        have H1 := Lib.hid h1
        clear h1
        go_wp2_with fail
        refine HWi.out.mono ?_
        rintro e w1 ⟨rfl, hb1⟩
        have z1 := blk_below HZ0.out hb1
        have L1 := Lib.hid (blk_below HKS.out hb1)
        have B1 := Lib.hid (below_step HB.out hb1)
        clear hb1 p0 p1 p2 p3 p4
        obtain ⟨p0, p1, p2, p3, p4⟩ := fm_cells z1
        by_cases h2 : 0 ≤ x.f2 ∧ x.f2 ≤ 999
        · rw [decide_eq_true h2]
          have H2 := Lib.hid h2
          clear h2
          by_cases h4 : x.f3.length = 0
          · have t4 : ((x.f3.length : Int) == 0) = true := by rw [beq_iff_eq]; omega
            have H4 := Lib.hid h4
            clear h4
            by_cases h5 : x.f4.length = 0
            · have t5 : ((x.f4.length : Int) == 0) = true := by rw [beq_iff_eq]; omega
              have H5 := Lib.hid h5
              have H0 := Lib.hid h0
              clear h5 h0
              go_wp2_with fail
              go_ret
              have hs1 : x.size = 1 := by have h1 := HSZ.out; rw [List.length_eq_zero_iff.1 H5.out] at h1; exact h1
              have hc1 : (x.size : Int) = 1 := by omega
              exact okPost_yes ⟨(isOk2 K2.out).2 ⟨H1.out, H2.out.1, H2.out.2, H4.out, H5.out⟩, by have := H0.out; omega⟩ B1.out (by rw [hc1]; exact L1.out)
            · have t5 : ((x.f4.length : Int) == 0) = false := by rw [beq_eq_false_iff_ne]; omega
              have H5 := Lib.hid h5
              clear h5
              go_wp2_with fail
              go_ret
              exact okPost_no (fun h => H5.out ((isOk2 K2.out).1 h.1).2.2.2.2) B1.out
          · have t4 : ((x.f3.length : Int) == 0) = false := by rw [beq_eq_false_iff_ne]; omega
            have H4 := Lib.hid h4
            clear h4
            go_wp2_with fail
            go_ret
            exact okPost_no (fun h => H4.out ((isOk2 K2.out).1 h.1).2.2.2.1) B1.out
        · rw [decide_eq_false h2]
          have H2 := Lib.hid h2
          clear h2
          go_wp2_with fail
          go_ret
          exact okPost_no (fun h => H2.out ⟨((isOk2 K2.out).1 h.1).2.1, ((isOk2 K2.out).1 h.1).2.2.1⟩) B1.out
      · have t3 : (x.f1.toList == []) = false := by rw [beq_eq_false_iff_ne]; exact h1
        have H1 := Lib.hid h1
        clear h1
        go_wp2_with fail
        go_ret
        exact okPost_no (fun h => H1.out ((isOk2 K2.out).1 h.1).1) HB.out
    have e2 : (x.f0 == 2) = false := by simpa using k2
    have K2 := Lib.hid k2
    clear k2 HWi
    by_cases k3 : x.f0 = 3
    · have e3 : (x.f0 == 3) = true := by simpa using k3
      have K3 := Lib.hid k3
      clear k3
      go_enter Tryd.func36, Tryd.ntmps36
      by_cases h1 : x.f1.toList = []
      · have t3 : (x.f1.toList != []) = false := by rw [h1]; rfl
        have t3' : (x.f1.toList == []) = true := by rw [h1]; rfl
        have H1 := Lib.hid h1
        clear h1
        by_cases h2 : x.f2 = 0
        · have t4 : (x.f2 != 0) = false := by simpa using h2
          have H2 := Lib.hid h2
          clear h2
          by_cases h4 : x.f3.length = 0
          · have t5 : decide ((x.f3.length : Int) > 0) = false := decide_eq_false (by omega)
            have t5' : decide ((0 : Int) < (x.f3.length : Int)) = false := decide_eq_false (by omega)
            have t5'' : decide (0 < x.f3.length) = false := decide_eq_false (by omega)
            have H4 := Lib.hid h4
            clear h4
            go_wp2_with fail
            go_loopg [8, 86] x.f4.length (fun kq v8 v86 w' => ∃ i : Nat, i ≤ x.f4.length ∧ x.f4.length - i ≤ kq ∧ v86 = .int .i64 i ∧ Aside0 (∀ j (h : j < x.f4.length), j < i → IsOk n x.f4[j]) ∧ Aside0 (Below w0.heap.size w0 w') ∧ Aside0 (LeftAt w' g (L - 1 - sizes (x.f4.take i))) ∧ Aside0 (0 ≤ L - 1 - (sizes (x.f4.take i) : Int)))
            case atStart => exact ⟨0, Nat.zero_le _, by omega, rfl, ⟨fun j _ h => absurd h (by omega)⟩, ⟨HB.out⟩, ⟨by simpa [sizes] using HKS.out⟩, ⟨by simp [sizes]; omega⟩⟩
            case round =>
              obtain ⟨i, hi, hg2, rfl, HN, HW, HL, HP⟩ := hrel
              by_cases hlt : i < x.f4.length
              · obtain ⟨ad, G3, m3, G4, m4, e, g0, g1, g2, g3, g4, hk⟩ := kid_at HI0.out.g4 i hlt
                subst e
                have q0 := ck0 HW.out g0
                have q1 := ck0 HW.out g1
                have q2 := ck0 HW.out g2
                have q3 := ck0 HW.out g3
                have q4 := ck0 HW.out g4
                have hst := sizes_take x.f4 i hlt
                have hle := sizes_take_le x.f4 (i + 1)
                have hP := HP.out
                have hfr : w0.heap.size ≤ wr.heap.size := HW.out.size
                have HC := Lib.hid (IH.out x.f4[i] G3 m3 G4 m4 (d + 1) (L - 1 - (sizes (x.f4.take i) : Int)) g w0 (wr.alloc (.cells #[.int .i64 x.f4[i].f0, .string x.f4[i].f1, .int .i64 x.f4[i].f2, .slice G3 x.f4[i].f3.length m3, .slice G4 x.f4[i].f4.length m4] 26)) (by have := HD.out; omega) (by omega) hP (by omega) (kid_tot HT.out (List.getElem_mem hlt)) hk (below_step HW.out (below_new _ _)) hg (blk_below HL.out (below_new _ _)))
                have HST := Lib.hid hst
                have HLE := Lib.hid hle
                clear hk g0 g1 g2 g3 g4 hst hle hP hfr
                go_wp2_with fail
                refine HC.out.mono ?_
                intro e w1 hpost
                obtain ⟨b, rfl, hiff, hb1, hl1⟩ := hpost
                have HF := Lib.hid hiff
                have HB1 := Lib.hid hb1
                have HL1 := Lib.hid hl1
                clear hiff hb1 hl1
                cases b with
                | true =>
                  go_wp2_with fail
                  go_roundg (x.f4.length - (i + 1))
                  case measure => omega
                  case rel =>
                    have h1 := HST.out
                    have h2 := HF.out.1 (by simp)
                    have h3 := HL1.out (by simp)
                    refine ⟨i + 1, by omega, Nat.le_refl _, by go_num, ⟨fun j hj hji => ?_⟩, ⟨HB1.out⟩, ⟨?_⟩, ⟨by rw [h1]; omega⟩⟩
                    · rcases Nat.lt_or_ge j i with h | h
                      · exact HN.out j hj h
                      · obtain rfl : j = i := by omega
                        exact h2.1
                    · rw [h1, show L - 1 - ((sizes (x.f4.take i) + x.f4[i].size : Nat) : Int) = L - 1 - (sizes (x.f4.take i) : Int) - (x.f4[i].size : Int) from by omega]
                      exact h3
                | false =>
                  go_wp2_with fail
                  go_ret
                  refine okPost_no (fun h => ?_) HB1.out
                  have h1 := HF.out.2 ⟨((isOk3 K1.out K2.out).1 h.1).2.2.2.2 _ (List.getElem_mem hlt), by have h1 := HST.out; have h2 := HLE.out; have h3 := HSZ.out; have h4 := h.2; omega⟩
                  cases h1
              · obtain rfl : i = x.f4.length := by omega
                go_wp2_with fail
                go_ret
                have hsum : (x.size : Int) = 1 + (sizes x.f4 : Int) := by have := HSZ.out; omega
                have hP := HP.out
                have hL := HL.out
                rw [List.take_length] at hP hL
                refine okPost_yes ⟨(isOk3 K1.out K2.out).2 ⟨K3.out, H1.out, H2.out, H4.out, fun k hk => ?_⟩, by omega⟩ HW.out (by rw [show L - (x.size : Int) = L - 1 - (sizes x.f4 : Int) from by omega]; exact hL)
                obtain ⟨j, hj, rfl⟩ := List.getElem_of_mem hk
                exact HN.out j hj hj
          · have t5 : decide ((x.f3.length : Int) > 0) = true := decide_eq_true (by omega)
            have t5' : decide ((0 : Int) < (x.f3.length : Int)) = true := decide_eq_true (by omega)
            have t5'' : decide (0 < x.f3.length) = true := decide_eq_true (by omega)
            have H4 := Lib.hid h4
            clear h4
            go_wp2_with fail
            go_ret
            exact okPost_no (fun h => H4.out ((isOk3 K1.out K2.out).1 h.1).2.2.2.1) HB.out
        · have t4 : (x.f2 != 0) = true := by simpa using h2
          have H2 := Lib.hid h2
          clear h2
          go_wp2_with fail
          go_ret
          exact okPost_no (fun h => H2.out ((isOk3 K1.out K2.out).1 h.1).2.2.1) HB.out
      · have t3 : (x.f1.toList != []) = true := by rw [bne_iff_ne]; exact h1
        have t3' : (x.f1.toList == []) = false := by rw [beq_eq_false_iff_ne]; exact h1
        have H1 := Lib.hid h1
        clear h1
        go_wp2_with fail
        go_ret
        exact okPost_no (fun h => H1.out ((isOk3 K1.out K2.out).1 h.1).2.1) HB.out
    have e3 : (x.f0 == 3) = false := by simpa using k3
    have K3 := Lib.hid k3
    clear k3
    go_enter Tryd.func36, Tryd.ntmps36
    go_wp2_with fail
    go_ret
    exact okPost_no (fun h => K3.out ((isOk3 K1.out K2.out).1 h.1).1) HB.out
theorem implValid_any (x : Fm) (A3 : Option Addr) (c3 : Nat) (A4 : Option Addr) (c4 : Nat) (w : World) (hin : FmIn w x A3 c3 A4 c4) (ht : x.tot ≤ 1048576) :
    Calls Tryd.prog 11 #[.agg #[.int .i64 x.f0, .string x.f1, .int .i64 x.f2, .slice A3 x.f3.length c3, .slice A4 x.f4.length c4]] w (Ret w (.bool (pB (FmOk x)))) := by
  have hb := below_step (below_new w (.cells #[.int .i64 x.f0, .string x.f1, .int .i64 x.f2, .slice A3 x.f3.length c3, .slice A4 x.f4.length c4] 26)) (below_new _ (.cells #[.int .i64 400] 3))
  have hl := blk_new (w.alloc (.cells #[.int .i64 x.f0, .string x.f1, .int .i64 x.f2, .slice A3 x.f3.length c3, .slice A4 x.f4.length c4] 26)) (.cells #[.int .i64 400] 3)
  rw [show (w.alloc (.cells #[.int .i64 x.f0, .string x.f1, .int .i64 x.f2, .slice A3 x.f3.length c3, .slice A4 x.f4.length c4] 26)).heap.size = w.heap.size + 1 from by simp] at hl
  have HC := Lib.hid (formOk_any 40 x A3 c3 A4 c4 1 400 (w.heap.size + 1) w _ (by omega) (by omega) (by omega) (by omega) ht hin hb (by omega) hl)
  clear hin ht hb hl
  go_enter Tryd.func11, Tryd.ntmps11
  go_wp2_with fail
  refine HC.out.mono ?_
  intro e w1 hpost
  obtain ⟨b, rfl, hiff, hb1, hl1⟩ := hpost
  have hv : b = pB (FmOk x) := pB_of ⟨fun h => ⟨(hiff.1 h).1, by have := (hiff.1 h).2; omega⟩, fun h => hiff.2 ⟨h.1, by have := h.2; omega⟩⟩
  have HV := Lib.hid hv
  have HB1 := Lib.hid hb1
  clear hiff hb1 hl1 hv HC
  go_wp2_with fail
  go_ret
  exact ⟨ret_b HV.out, HB1.out⟩
end Go.Proofs.YteeepenncddnjaaDoor
end
section
namespace Go.Proofs.YteeepenncddnjaaDoor
open Go.RowKit Go.Proofs.YteeepenncddnjaaDoorW.PrintWords Go.Proofs.YteeepenncddnjaaDoorW.PrintLast Go.Proofs.YteeepenncddnjaaDoorW.PrintMore
set_option linter.unusedVariables false
set_option linter.unusedSimpArgs false
/-- Only the blocks of S, and new ones, may have changed. -/
structure Mk (S : List Nat) (w w' : World) : Prop where
  b0 : Below 0 w w'
  keep : ∀ b, b < w.heap.size → b ∉ S → w'.heap[b]? = w.heap[b]?
theorem Mk.refl (S : List Nat) (w : World) : Mk S w w := ⟨Below.refl _ _, fun _ _ _ => rfl⟩
theorem Mk.trans {S : List Nat} {a b c : World} (h : Mk S a b) (k : Mk S b c) : Mk S a c :=
  ⟨h.b0.trans k.b0, fun j hj hs => (k.keep j (Nat.lt_of_lt_of_le hj h.b0.size) hs).trans (h.keep j hj hs)⟩
theorem Mk.more {S T : List Nat} {a b : World} (h : Mk S a b) (hs : ∀ j, j ∈ S → j ∈ T) : Mk T a b := ⟨h.b0, fun j hj ht => h.keep j hj (fun q => ht (hs j q))⟩
theorem Mk.set {S : List Nat} (w : World) {g : Nat} (hg : g ∈ S) (i : Nat) (u : Value) : Mk S w (w.setCell ⟨g, i, none⟩ u) :=
  ⟨(Below.refl 0 w).setCell (Nat.zero_le _) u, fun b _ hb => Below.heap_setCell _ _ _ _ (fun h => hb (h ▸ hg))⟩
theorem Mk.below {S : List Nat} {w w' : World} {B : Nat} (h : Mk S w w') (hB : B ≤ w.heap.size) (hs : ∀ b, b ∈ S → B ≤ b) : Below B w w' :=
  ⟨h.b0.os, h.b0.tape, h.b0.output, h.b0.size, fun k hk => h.keep k (Nat.lt_of_lt_of_le hk hB) (fun q => Nat.lt_irrefl _ (Nat.lt_of_lt_of_le hk (hs k q)))⟩
/-- The numbers k, k + 1, ..: n of them. -/
def markI (n : Nat) (k : Int) : List Int := (List.range n).map (fun i : Nat => k + (i : Int))
end Go.Proofs.YteeepenncddnjaaDoor
end
section
namespace Go.Proofs.YteeepenncddnjaaDoor
open Go.RowKit Go.Proofs.YteeepenncddnjaaDoorW.PrintWords Go.Proofs.YteeepenncddnjaaDoorW.PrintLast Go.Proofs.YteeepenncddnjaaDoorW.PrintMore
set_option linter.unusedVariables false
set_option linter.unusedSimpArgs false
theorem szs_len (l : List Fm) : l.length ≤ sizes l := by
  induction l with
  | nil => simp [sizes]
  | cons y r ih => simp only [sizes, List.length_cons, Fm.size_eq y]; omega
def scP (sc : List Int) (i : Nat) : List UInt8 := if i = 0 then [] else 123 :: Lib.join ((digs sc).take i) [44]
theorem scP_first {sc : List Int} (h : 0 < sc.length) : scP sc 1 = 123 :: Lib.itoa sc[0] := by
  rw [scP, if_neg (by omega), digs_take sc 0 h, List.take_zero, List.nil_append, Lib.join_one]
theorem scP_next {sc : List Int} {i : Nat} (h : i < sc.length) (h0 : i ≠ 0) : scP sc (i + 1) = scP sc i ++ (44 :: Lib.itoa sc[i]) := by
  rw [scP, if_neg (by omega), scP, if_neg h0, digs_take sc i h, join_snoc _ _ _ (take_ne _ _ (by rw [digs_len]; exact h) h0)]
  simp [List.append_assoc]
theorem scP_len {sc : List Int} (h : ScOk sc) (i : Nat) : (scP sc i).length ≤ 97 := by
  have a := join_len ((digs sc).take i) 44
  have b := lens_take (digs sc) i
  have c := lens_digs sc h
  have d := h.1
  unfold scP
  split
  · simp
  · simp only [List.length_cons]; omega
theorem scP_all {sc : List Int} (h : sc.length ≠ 0) : scP sc sc.length ++ [125] = scT sc := by
  rw [scP, if_neg h, scT, if_neg h, List.take_of_length_le (by rw [digs_len]; exact Nat.le_refl _)]
  rfl
def kdP (ks : List Fm) (i : Nat) : List UInt8 := 40 :: Lib.join ((txtL ks).take i) [32]
theorem kdP_first {ks : List Fm} (h : 0 < ks.length) : kdP ks 1 = kdP ks 0 ++ ks[0].txt := by
  rw [kdP, kdP, txtL_take ks 0 h, List.take_zero, List.nil_append, Lib.join_one, Lib.join_nil]
  rfl
theorem kdP_next {ks : List Fm} {i : Nat} (h : i < ks.length) (h0 : i ≠ 0) : kdP ks (i + 1) = kdP ks i ++ (32 :: ks[i].txt) := by
  rw [kdP, kdP, txtL_take ks i h, join_snoc _ _ _ (take_ne _ _ (by rw [txtL_len]; exact h) h0)]
  simp [List.append_assoc]
theorem kdP_len {n : Nat} {ks : List Fm} (h : ∀ k, k ∈ ks → IsOk n k) (i : Nat) : (kdP ks i).length ≤ 200 * sizes ks + 1 := by
  have a := join_len ((txtL ks).take i) 32
  have b := lens_take (txtL ks) i
  have c := lens_txt h
  simp only [kdP, List.length_cons]; omega
set_option maxHeartbeats 4000000 in
set_option maxRecDepth 100000 in
theorem l1Text_any : ∀ (n : Nat) (x : Fm) (A3 : Option Addr) (c3 : Nat) (A4 : Option Addr) (c4 : Nat) (w : World), FmIn w x A3 c3 A4 c4 → IsOk n x → x.size ≤ 400 →
    Calls Tryd.prog 40 #[.agg #[.int .i64 x.f0, .string x.f1, .int .i64 x.f2, .slice A3 x.f3.length c3, .slice A4 x.f4.length c4]] w (Ret w (.string (B8 x.txt))) := by
  intro n
  induction n with
  | zero => intro x A3 c3 A4 c4 w hin hok hs; exact absurd hok (fun h => h)
  | succ n ih =>
    intro x A3 c3 A4 c4 w hin hok hs
    have hbx := below_new w (.cells #[.int .i64 x.f0, .string x.f1, .int .i64 x.f2, .slice A3 x.f3.length c3, .slice A4 x.f4.length c4] 26)
    have hkb := blk_new w (.cells #[.int .i64 x.f0, .string x.f1, .int .i64 x.f2, .slice A3 x.f3.length c3, .slice A4 x.f4.length c4] 26)
    obtain ⟨p0, p1, p2, p3, p4⟩ := fm_cells hkb
    have HI := Lib.hid hin
    have HX := Lib.hid (And.intro hbx hkb)
    by_cases k2 : x.f0 = 2
    · have t2 : (x.f0 == 2) = true := beq_iff_eq.mpr k2
      have q := (isOk2 k2).1 hok
      have HT := Lib.hid (show x.txt = Lib.itoa x.f2 by rw [Fm.txt_eq, if_pos k2])
      have HC := Lib.hid (fun W => l15Dec_any x.f2 W q.2.1 q.2.2.1)
      clear hin hok hs hbx hkb k2 q ih
      go_enter Tryd.func40, Tryd.ntmps40
      go_wp2_with fail
      refine (HC.out _).mono ?_
      rintro e w1 ⟨rfl, hb⟩
      have HB := Lib.hid (below_step HX.out.1 hb)
      clear hb p0 p1 p2 p3 p4
      go_wp2_with fail
      go_ret
      exact ⟨by rw [HT.out]; rfl, HB.out⟩
    have t2 : (x.f0 == 2) = false := beq_eq_false_iff_ne.mpr k2
    by_cases k1 : x.f0 = 1
    · have t1 : (x.f0 == 1) = true := beq_iff_eq.mpr k1
      have q := (isOk1 k1).1 hok
      have hm3 : x.f3.length ≤ 24 := q.2.2.1.1
      have HT := Lib.hid (show x.txt = nameT x.f1 x.f3 by rw [Fm.txt_eq, if_neg k2, if_pos k1])
      have HS := Lib.hid q.2.2.1
      have hn := nmOk_sz12 q.1
      clear hin hok hs hbx hkb k1 k2 q ih
      go_enter Tryd.func40, Tryd.ntmps40
      go_wp2_with fail
      clear p0 p1 p2 p3 p4
      go_loopg [3, 4] x.f3.length (fun kq v3 v4 w' => ∃ (i : Nat) (acc : ByteArray), i ≤ x.f3.length ∧ x.f3.length - i ≤ kq ∧ v4 = .int .i64 i ∧ v3 = .string acc ∧ acc.size ≤ 200 ∧ Aside0 (acc = B8 (x.f1.data.toList ++ scP x.f3 i)) ∧ Aside0 (Below w.heap.size w w' ∧ w'.heap[w.heap.size]? = some (.cells #[.int .i64 x.f0, .string x.f1, .int .i64 x.f2, .slice A3 x.f3.length c3, .slice A4 x.f4.length c4] 26 (0, 0))))
      case atStart => exact ⟨0, _, Nat.zero_le _, by omega, rfl, rfl, by omega, ⟨by rw [scP, if_pos rfl, List.append_nil, B8_of]⟩, ⟨HX.out⟩⟩
      case round =>
        obtain ⟨i, acc, hi, hg, rfl, rfl, ha, HA, HW⟩ := hrel
        obtain ⟨p0, p1, p2, p3, p4⟩ := fm_cells HW.out.2
        by_cases hlt : i < x.f3.length
        · obtain ⟨ad, e, hcell⟩ := int_at (Kd.C_below HI.out.g3 HW.out.1) i hlt
          subst e
          have hv := HS.out.2 i hlt
          have HC := Lib.hid (fun W => l15Dec_any x.f3[i] W (by omega) (by omega))
          have hd := itoa_len x.f3[i] (by omega) (by omega)
          have hd' : (B8 (Lib.itoa x.f3[i])).size ≤ 3 := by rw [B8_size]; exact hd
          clear hd hv
          by_cases h0 : i = 0
          · have HE := Lib.hid (show acc ++ ⟨#[123]⟩ ++ B8 (Lib.itoa x.f3[i]) = B8 (x.f1.data.toList ++ scP x.f3 (i + 1)) by subst h0; rw [HA.out, scP_first hlt, scP, if_pos rfl, List.append_nil, show (⟨#[123]⟩ : ByteArray) = B8 [123] from rfl, B8_append, B8_append, List.append_assoc]; rfl)
            have HL := Lib.hid (show (x.f1.data.toList ++ scP x.f3 (i + 1)).length ≤ 200 by have := scP_len HS.out (i + 1); have e : x.f1.data.toList.length = x.f1.size := Array.length_toList; rw [List.length_append]; omega)
            have ti : ((i : Int) == 0) = true := by rw [beq_iff_eq]; omega
            have ti2 : (i == 0) = true := by rw [beq_iff_eq]; omega
            clear h0
            go_wp2_with fail
            refine (HC.out _).mono ?_
            rintro e w1 ⟨rfl, hb⟩
            generalize B8 (Lib.itoa x.f3[i]) = t at hd' HE HC ⊢
            have HB := Lib.hid (And.intro (below_step HW.out.1 hb) (blk_below HW.out.2 hb))
            clear hb p0 p1 p2 p3 p4 hcell
            go_wp2_with fail
            go_roundg (x.f3.length - (i + 1))
            case measure => omega
            case rel => exact ⟨i + 1, _, by omega, Nat.le_refl _, by go_num, rfl, by rw [HE.out, B8_size]; exact HL.out, ⟨HE.out⟩, ⟨HB.out⟩⟩
          · have HE := Lib.hid (show acc ++ ⟨#[44]⟩ ++ B8 (Lib.itoa x.f3[i]) = B8 (x.f1.data.toList ++ scP x.f3 (i + 1)) by rw [HA.out, scP_next hlt h0, show (⟨#[44]⟩ : ByteArray) = B8 [44] from rfl, B8_append, B8_append, ← List.append_assoc, List.append_assoc (_ ++ _)]; rfl)
            have HL := Lib.hid (show (x.f1.data.toList ++ scP x.f3 (i + 1)).length ≤ 200 by have := scP_len HS.out (i + 1); have e : x.f1.data.toList.length = x.f1.size := Array.length_toList; rw [List.length_append]; omega)
            have ti : ((i : Int) == 0) = false := by rw [beq_eq_false_iff_ne]; omega
            have ti2 : (i == 0) = false := by rw [beq_eq_false_iff_ne]; omega
            clear h0
            go_wp2_with fail
            refine (HC.out _).mono ?_
            rintro e w1 ⟨rfl, hb⟩
            generalize B8 (Lib.itoa x.f3[i]) = t at hd' HE HC ⊢
            have HB := Lib.hid (And.intro (below_step HW.out.1 hb) (blk_below HW.out.2 hb))
            clear hb p0 p1 p2 p3 p4 hcell
            go_wp2_with fail
            go_roundg (x.f3.length - (i + 1))
            case measure => omega
            case rel => exact ⟨i + 1, _, by omega, Nat.le_refl _, by go_num, rfl, by rw [HE.out, B8_size]; exact HL.out, ⟨HE.out⟩, ⟨HB.out⟩⟩
        · obtain rfl : i = x.f3.length := by omega
          by_cases hz : x.f3.length = 0
          · have HE := Lib.hid (show acc = B8 x.txt by rw [HA.out, HT.out, nameT, scT, if_pos hz, scP, if_pos hz])
            have tz : decide ((x.f3.length : Int) > 0) = false := decide_eq_false (by omega)
            have tz2 : decide (0 < x.f3.length) = false := decide_eq_false (by omega)
            have HZ := Lib.hid hz
            clear hz
            go_wp2_with fail
            go_ret
            exact ⟨by rw [← HE.out]; rfl, HW.out.1⟩
          · have HE := Lib.hid (show acc ++ ⟨#[125]⟩ = B8 x.txt by rw [HA.out, HT.out, nameT, show (⟨#[125]⟩ : ByteArray) = B8 [125] from rfl, B8_append, List.append_assoc, scP_all hz])
            have tz : decide ((x.f3.length : Int) > 0) = true := decide_eq_true (by omega)
            have tz2 : decide (0 < x.f3.length) = true := decide_eq_true (by omega)
            have HZ := Lib.hid hz
            clear hz
            go_wp2_with fail
            go_ret
            exact ⟨by rw [← HE.out]; rfl, HW.out.1⟩
    have t1 : (x.f0 == 1) = false := beq_eq_false_iff_ne.mpr k1
    have q := (isOk3 k1 k2).1 hok
    have hm4 : x.f4.length ≤ 400 := by have := szs_len x.f4; rw [Fm.size_eq] at hs; omega
    have HT := Lib.hid (show x.txt = 40 :: (Lib.join (txtL x.f4) [32] ++ [41]) by rw [Fm.txt_eq, if_neg k2, if_neg k1])
    have HK := Lib.hid q.2.2.2.2
    have HS := Lib.hid (show sizes x.f4 ≤ 399 by rw [Fm.size_eq] at hs; omega)
    have IH := Lib.hid ih
    clear hin hok hs hbx hkb k1 k2 q ih
    go_enter Tryd.func40, Tryd.ntmps40
    go_wp2_with fail
    clear p0 p1 p2 p3 p4
    go_loopg [6, 7] x.f4.length (fun kq v6 v7 w' => ∃ (i : Nat) (acc : ByteArray), i ≤ x.f4.length ∧ x.f4.length - i ≤ kq ∧ v7 = .int .i64 i ∧ v6 = .string acc ∧ acc.size ≤ 80000 ∧ Aside0 (acc = B8 (kdP x.f4 i)) ∧ Aside0 (Below w.heap.size w w' ∧ w'.heap[w.heap.size]? = some (.cells #[.int .i64 x.f0, .string x.f1, .int .i64 x.f2, .slice A3 x.f3.length c3, .slice A4 x.f4.length c4] 26 (0, 0))))
    case atStart => exact ⟨0, _, Nat.zero_le _, by omega, rfl, rfl, by show (ByteArray.mk #[40]).size ≤ 80000; have : (ByteArray.mk #[40]).size = 1 := rfl; omega, ⟨rfl⟩, ⟨HX.out⟩⟩
    case round =>
      obtain ⟨i, acc, hi, hg, rfl, rfl, ha, HA, HW⟩ := hrel
      obtain ⟨p0, p1, p2, p3, p4⟩ := fm_cells HW.out.2
      by_cases hlt : i < x.f4.length
      · obtain ⟨ad, G3, m3, G4, m4, e, g0, g1, g2, g3, g4, hk⟩ := kid_at HI.out.g4 i hlt
        subst e
        replace g0 := ck0 HW.out.1 g0
        replace g1 := ck0 HW.out.1 g1
        replace g2 := ck0 HW.out.1 g2
        replace g3 := ck0 HW.out.1 g3
        replace g4 := ck0 HW.out.1 g4
        have hko := HK.out _ (List.getElem_mem hlt)
        have hsz : x.f4[i].size ≤ 399 := by have := sizes_mem (List.getElem_mem hlt); have := HS.out; omega
        have hd := txt_len n _ hko
        have hd' : (B8 x.f4[i].txt).size ≤ 80000 := by rw [B8_size]; omega
        have HC := Lib.hid (IH.out x.f4[i] G3 m3 G4 m4 wr (hk.below HW.out.1) hko (by omega))
        clear hd hk hko hsz
        by_cases h0 : i = 0
        · have HE := Lib.hid (show acc ++ B8 x.f4[i].txt = B8 (kdP x.f4 (i + 1)) by subst h0; rw [HA.out, kdP_first hlt, B8_append])
          have HL := Lib.hid (show (kdP x.f4 (i + 1)).length ≤ 80000 by have := kdP_len HK.out (i + 1); have := HS.out; omega)
          have ti : decide ((i : Int) > 0) = false := decide_eq_false (by omega)
          have ti2 : decide (0 < i) = false := decide_eq_false (by omega)
          clear h0
          go_wp2_with fail
          refine HC.out.mono ?_
          rintro e w1 ⟨rfl, hb⟩
          generalize B8 x.f4[i].txt = t at hd' HE HC ⊢
          have HB := Lib.hid (And.intro (below_step HW.out.1 hb) (blk_below HW.out.2 hb))
          clear hb p0 p1 p2 p3 p4 g0 g1 g2 g3 g4
          go_wp2_with fail
          go_roundg (x.f4.length - (i + 1))
          case measure => omega
          case rel => exact ⟨i + 1, _, by omega, Nat.le_refl _, by go_num, rfl, by rw [HE.out, B8_size]; exact HL.out, ⟨HE.out⟩, ⟨HB.out⟩⟩
        · have HE := Lib.hid (show acc ++ ⟨#[32]⟩ ++ B8 x.f4[i].txt = B8 (kdP x.f4 (i + 1)) by rw [HA.out, kdP_next hlt h0, show (⟨#[32]⟩ : ByteArray) = B8 [32] from rfl, B8_append, B8_append, List.append_assoc]; rfl)
          have HL := Lib.hid (show (kdP x.f4 (i + 1)).length ≤ 80000 by have := kdP_len HK.out (i + 1); have := HS.out; omega)
          have ti : decide ((i : Int) > 0) = true := decide_eq_true (by omega)
          have ti2 : decide (0 < i) = true := decide_eq_true (by omega)
          clear h0
          go_wp2_with fail
          refine HC.out.mono ?_
          rintro e w1 ⟨rfl, hb⟩
          generalize B8 x.f4[i].txt = t at hd' HE HC ⊢
          have HB := Lib.hid (And.intro (below_step HW.out.1 hb) (blk_below HW.out.2 hb))
          clear hb p0 p1 p2 p3 p4 g0 g1 g2 g3 g4
          go_wp2_with fail
          go_roundg (x.f4.length - (i + 1))
          case measure => omega
          case rel => exact ⟨i + 1, _, by omega, Nat.le_refl _, by go_num, rfl, by rw [HE.out, B8_size]; exact HL.out, ⟨HE.out⟩, ⟨HB.out⟩⟩
      · obtain rfl : i = x.f4.length := by omega
        have HE := Lib.hid (show acc ++ ⟨#[41]⟩ = B8 x.txt by rw [HA.out, HT.out, kdP, List.take_of_length_le (by rw [txtL_len]; exact Nat.le_refl _), show (⟨#[41]⟩ : ByteArray) = B8 [41] from rfl, B8_append]; rfl)
        go_wp2_with fail
        go_ret
        exact ⟨by rw [← HE.out]; rfl, HW.out.1⟩
end Go.Proofs.YteeepenncddnjaaDoor
end
section
namespace Go.Proofs.YteeepenncddnjaaDoor
open Go.RowKit Go.Proofs.YteeepenncddnjaaDoorW.PrintWords Go.Proofs.YteeepenncddnjaaDoorW.PrintLast Go.Proofs.YteeepenncddnjaaDoorW.PrintMore
set_option linter.unusedVariables false
set_option linter.unusedSimpArgs false

def SpecSame (x : Fm) : Prop := ∀ (y : Fm) (A3 : Option Addr) (c3 : Nat) (A4 : Option Addr) (c4 : Nat) (B3 : Option Addr) (d3 : Nat) (B4 : Option Addr) (d4 : Nat) (w : World), FmIn w x A3 c3 A4 c4 → FmIn w y B3 d3 B4 d4 →
    Calls Tryd.prog 10 #[.agg #[.int .i64 x.f0, .string x.f1, .int .i64 x.f2, .slice A3 x.f3.length c3, .slice A4 x.f4.length c4], .agg #[.int .i64 y.f0, .string y.f1, .int .i64 y.f2, .slice B3 y.f3.length d3, .slice B4 y.f4.length d4]] w (Ret w (.bool (eqB x y)))
def ImplSame (x : Fm) : Prop := ∀ (y : Fm) (A3 : Option Addr) (c3 : Nat) (A4 : Option Addr) (c4 : Nat) (B3 : Option Addr) (d3 : Nat) (B4 : Option Addr) (d4 : Nat) (w : World), FmIn w x A3 c3 A4 c4 → FmIn w y B3 d3 B4 d4 →
    Calls Tryd.prog 9 #[.agg #[.int .i64 x.f0, .string x.f1, .int .i64 x.f2, .slice A3 x.f3.length c3, .slice A4 x.f4.length c4], .agg #[.int .i64 y.f0, .string y.f1, .int .i64 y.f2, .slice B3 y.f3.length d3, .slice B4 y.f4.length d4]] w (Ret w (.bool (eqB x y)))
end Go.Proofs.YteeepenncddnjaaDoor
end
section
namespace Go.Proofs.YteeepenncddnjaaDoor
open Go.RowKit Go.Proofs.YteeepenncddnjaaDoorW.PrintWords Go.Proofs.YteeepenncddnjaaDoorW.PrintLast Go.Proofs.YteeepenncddnjaaDoorW.PrintMore
set_option linter.unusedVariables false
set_option linter.unusedSimpArgs false
abbrev kS : Kd ByteArray := Kd.string
instance decMemB (n : ByteArray) (xs : List ByteArray) : Decidable (n ∈ xs) := @List.instDecidableMemOfLawfulBEq ByteArray instBEqOfDecidableEq _ n xs
end Go.Proofs.YteeepenncddnjaaDoor
end
section
namespace Go.Proofs.YteeepenncddnjaaDoor
open Go.RowKit Go.Proofs.YteeepenncddnjaaDoorW.PrintWords Go.Proofs.YteeepenncddnjaaDoorW.PrintLast Go.Proofs.YteeepenncddnjaaDoorW.PrintMore
set_option linter.unusedVariables false
set_option linter.unusedSimpArgs false
mutual
def foldF {σ : Type} (step : σ → Fm → σ) : Fm → σ → σ
  | ⟨a, b, c, d, ks⟩, s => foldFs step ks (step s ⟨a, b, c, d, ks⟩)
def foldFs {σ : Type} (step : σ → Fm → σ) : List Fm → σ → σ
  | [], s => s
  | k :: ks, s => foldFs step ks (foldF step k s)
end
mutual
def costF (cost : Fm → Nat) : Fm → Nat
  | ⟨a, b, c, d, ks⟩ => cost ⟨a, b, c, d, ks⟩ + costFs cost ks
def costFs (cost : Fm → Nat) : List Fm → Nat
  | [] => 0
  | k :: ks => costF cost k + costFs cost ks
end
/-- What a call leaves of a state: it lies in S', which is S and new blocks. -/
def StPost {σ : Type} (St : World → List Nat → σ → Prop) (S : List Nat) (s : σ) (w : World) (e : Ending) (w' : World) : Prop :=
  e = .returned (.tuple #[]) ∧ ∃ S', St w' S' s ∧ Mk S w w' ∧ ∀ b, b ∈ S' → b ∈ S ∨ w.heap.size ≤ b
end Go.Proofs.YteeepenncddnjaaDoor
end
section
namespace Go.Proofs.YteeepenncddnjaaDoor
open Go.RowKit Go.Proofs.YteeepenncddnjaaDoorW.PrintWords Go.Proofs.YteeepenncddnjaaDoorW.PrintLast Go.Proofs.YteeepenncddnjaaDoorW.PrintMore
set_option linter.unusedVariables false
set_option linter.unusedSimpArgs false
/-- A row of numbers in new memory is handed back. -/
def RetI (w : World) (xs : List Int) (e : Ending) (w' : World) : Prop := ∃ v, e = .returned v ∧ kI.R 3 w' w.heap.size (fun _ => True) v xs ∧ Below w.heap.size w w'
end Go.Proofs.YteeepenncddnjaaDoor
end
section
namespace Go.Proofs.YteeepenncddnjaaDoor
open Go.RowKit Go.Proofs.YteeepenncddnjaaDoorW.PrintWords Go.Proofs.YteeepenncddnjaaDoorW.PrintLast Go.Proofs.YteeepenncddnjaaDoorW.PrintMore
set_option linter.unusedVariables false
set_option linter.unusedSimpArgs false
theorem Mk.setCells {S : List Nat} {g : Nat} (hg : g ∈ S) : ∀ (vs : List Value) (o : Nat) (w : World), Mk S w (w.setCells g o vs)
  | [], _, w => Mk.refl S w
  | u :: r, o, w => by
    rw [World.setCells]
    exact (Mk.set w hg o u).trans (Mk.setCells hg r (o + 1) _)
end Go.Proofs.YteeepenncddnjaaDoor
end
section
namespace Go.Proofs.YteeepenncddnjaaDoor
open Go.RowKit Go.Proofs.YteeepenncddnjaaDoorW.PrintWords Go.Proofs.YteeepenncddnjaaDoorW.PrintLast Go.Proofs.YteeepenncddnjaaDoorW.PrintMore
set_option linter.unusedVariables false
/-- Number, captured variables, the world in which these lie, what it computes, and that it does. -/
structure Fv where
  g : Nat
  lb : Array Value
  w0 : World
  f : List Int → Option (List Int)
  eg : ∀ args w, (callFunc g args).run Tryd.prog w = .ok (.enter g args) w
  ok : ∀ (P1_ : Nat → Prop) (u : Value) (l r : List Int) (wb w : World), Below wb.heap.size wb w → kI.R 3 w wb.heap.size P1_ u l → Below w0.heap.size w0 wb → f l = some r →
    Calls Tryd.prog g (#[u] ++ lb) w fun e w' => ∃ v0_ : Value, e = .returned v0_ ∧ kI.R 3 w' wb.heap.size (fun k_ => P1_ k_ ∨ w.heap.size ≤ k_) v0_ r ∧ Below wb.heap.size wb w' ∧ Kept w w' (fun k_ => P1_ k_)
end Go.Proofs.YteeepenncddnjaaDoor
namespace Go.Proofs.YteeepenncddnjaaDoor.Q
open Go.RowKit Go.Proofs.YteeepenncddnjaaDoorW.PrintWords Go.Proofs.YteeepenncddnjaaDoorW.PrintLast Go.Proofs.YteeepenncddnjaaDoorW.PrintMore
set_option linter.unusedVariables false
def chg.f (a0 : Fv) (l1 : List Int) : Option (List Int) := a0.f l1
theorem chg.calls (a0 : Fv) (P1_ : Nat → Prop) (u9000_ : Value) (l1 : List Int) (r : List Int) (w0 w : World) (hB : Below w0.heap.size w0 w) (ho1 : Kd.R (Kd.int .i64) 3 w w0.heap.size P1_ u9000_ l1) (hw0 : Below a0.w0.heap.size a0.w0 w0) (h : chg.f a0 l1 = some r) :
    Calls Tryd.prog a0.g (#[u9000_] ++ a0.lb) w fun e w' => ∃ v0_ : Value, e = .returned v0_ ∧ Kd.R (Kd.int .i64) 3 w' w0.heap.size (fun k_ => (P1_ k_ ∨ w.heap.size ≤ k_)) v0_ r ∧ Below w0.heap.size w0 w' ∧ Kept w w' (fun k_ => P1_ k_) :=
  a0.ok P1_ u9000_ l1 r w0 w hB ho1 hw0 h
section
variable {P : Program} {ops : Array Oper} {Q : Exit → Act → World → Prop}
end
end Go.Proofs.YteeepenncddnjaaDoor.Q
end
section
namespace Go.Proofs.YteeepenncddnjaaDoor
open Go.RowKit Go.Proofs.YteeepenncddnjaaDoorW.PrintWords Go.Proofs.YteeepenncddnjaaDoorW.PrintLast Go.Proofs.YteeepenncddnjaaDoorW.PrintMore
set_option linter.unusedVariables false
set_option linter.unusedSimpArgs false
def putAt (xs : List Int) (k : Nat) (x : Int) : List Int := xs.take k ++ x :: xs.drop k
/-- A set with a number. -/
def putS (l : List Int) (x : Int) : List Int := if x ∈ l then l else putAt l (l.countP (· < x)) x
end Go.Proofs.YteeepenncddnjaaDoor
end
section
namespace Go.Proofs.YteeepenncddnjaaDoor
open Go.RowKit Go.Proofs.YteeepenncddnjaaDoorW.PrintWords Go.Proofs.YteeepenncddnjaaDoorW.PrintLast Go.Proofs.YteeepenncddnjaaDoorW.PrintMore
set_option linter.unusedVariables false
set_option linter.unusedSimpArgs false
/-- How a function tells of a form in new memory: from block B on. -/
structure Tells where
  T : Nat → World → Fm → Value → Value → Prop
  move : ∀ {B w w' x v3 v4}, T B w x v3 v4 → (∀ b, B ≤ b → w'.heap[b]? = w.heap[b]?) → T B w' x v3 v4
  low : ∀ {B B' w x v3 v4}, B' ≤ B → T B w x v3 v4 → T B' w x v3 v4
  form : ∀ {B w x v3 v4}, T B w x v3 v4 → ∃ A c B d, v3 = .slice A x.f3.length c ∧ v4 = .slice B x.f4.length d
def RetT (t : Tells) (w : World) (p : Fm × Bool) (e : Ending) (w' : World) : Prop := ∃ v3 v4, e = .returned (.tuple #[.agg #[.int .i64 p.1.f0, .string p.1.f1, .int .i64 p.1.f2, v3, v4], .bool p.2]) ∧ t.T w.heap.size w' p.1 v3 v4 ∧ Below w.heap.size w w'
def tellsNew : Tells where
  T := NewF
  move := by
    rintro B w w' x v3 v4 ⟨fp, ht, hn, hg⟩ hm
    exact ⟨fp, ht.move x (fun b hb => hm b (hg b hb)), hn, hg⟩
  low := by
    rintro B B' w x v3 v4 hb ⟨fp, ht, hn, hg⟩
    exact ⟨fp, ht, hn, fun b h => Nat.le_trans hb (hg b h)⟩
  form := by
    rintro B w x v3 v4 ⟨fp, ht, hn, hg⟩
    obtain ⟨A3, c3, A4, c4, e3, e4, _⟩ := ht.In
    exact ⟨A3, c3, A4, c4, e3, e4⟩
def tellsR : Tells where
  T := fun B w x v3 v4 => kI.R 3 w B (fun _ => True) v3 x.f3 ∧ kF.R 26 w B (fun k => some k ≠ v3.ownBlock) v4 x.f4
  move := by
    rintro B w w' x v3 v4 ⟨h3, h4⟩ hm
    have h3' := Kd.R_mono (Kd.R_move (Kd.R_bound h3) (fun k hk => hm k hk.2.1)) (fun _ _ => trivial)
    exact ⟨h3', Kd.R_mono (Kd.R_move (Kd.R_bound h4) (fun k hk => hm k hk.2.1)) (fun _ hk => hk.1)⟩
  low := by
    rintro B B' w x v3 v4 hb ⟨h3, h4⟩
    exact ⟨Kd.R_lower h3 hb, Kd.R_lower h4 hb⟩
  form := by
    rintro B w x v3 v4 ⟨h3, h4⟩
    obtain ⟨A, c, e3⟩ := Kd.R_slice h3
    obtain ⟨A2, c2, e4⟩ := Kd.R_slice h4
    exact ⟨A, c, A2, c2, e3, e4⟩
/-- What a mover leaves, as_ the print tells it. -/
theorem Mk.kept {v : Value} {w w' : World} {P1 : Nat → Prop} (h : Mk (obs v) w w') (hp : ∀ k, v.ownBlock = some k → P1 k) : Kept w w' (fun k => P1 k) := ⟨h.b0.size, fun i hi hn => h.keep i hi (fun hm => hn (hp i (obs_mem.1 hm)))⟩
/-- A set with a number put in or taken out. -/
def flipS (l : List Int) (n : Int) : List Int := if n ∈ l then l.filter (fun y => !(y == n)) else putS l n
end Go.Proofs.YteeepenncddnjaaDoor
end
section
namespace Go.Proofs.YteeepenncddnjaaDoor
set_option linter.unusedVariables false
set_option linter.unusedSimpArgs false
abbrev Srt (l : List Int) : Prop := l.Pairwise (· < ·)
abbrev takeO (l : List Int) (x : Int) : List Int := l.filter (fun y => !(y == x))
end Go.Proofs.YteeepenncddnjaaDoor
end
section
namespace Go.Proofs.YteeepenncddnjaaDoor
set_option linter.unusedVariables false
set_option linter.unusedSimpArgs false
mutual
/-- A form whose names have other scopes (what is no name has none). -/
def Fm.chS (g : List Int → List Int) : Fm → Fm
  | ⟨a, b, c, d, ks⟩ => ⟨a, b, c, if a = 1 then g d else [], chSL g ks⟩
def chSL (g : List Int → List Int) : List Fm → List Fm
  | [] => []
  | k :: ks => k.chS g :: chSL g ks
end
/-- A fact on all names within a form. -/
inductive AllNm (P : Fm → Prop) : Fm → Prop
  | mk (x : Fm) (h : x.f0 = 1 → P x) (hk : ∀ k, k ∈ x.f4 → AllNm P k) : AllNm P x
theorem AllNm.at {P : Fm → Prop} {x : Fm} (h : AllNm P x) : x.f0 = 1 → P x := by cases h; assumption
theorem AllNm.kid {P : Fm → Prop} {x : Fm} (h : AllNm P x) : ∀ k, k ∈ x.f4 → AllNm P k := by cases h; assumption
theorem AllNm.imp {P Q : Fm → Prop} (hi : ∀ x, P x → Q x) {x : Fm} (h : AllNm P x) : AllNm Q x := by
  induction h with
  | mk x h hk ih => exact ⟨x, fun e => hi x (h e), ih⟩
theorem AllNm.and {P Q : Fm → Prop} {x : Fm} (h : AllNm P x) (h2 : AllNm Q x) : AllNm (fun y => P y ∧ Q y) x := by
  induction h with
  | mk x h hk ih => exact ⟨x, fun e => ⟨h e, h2.at e⟩, fun k hk => ih k hk (h2.kid k hk)⟩
theorem AllNm.all {P : Fm → Prop} (h : ∀ x, P x) (x : Fm) : AllNm P x := by
  induction x using Fm.ind with
  | h x ih => exact ⟨x, fun _ => h x, ih⟩
/-- What AddScope, FlipScope, DropScope and DressLike return. -/
noncomputable def orN (x : Fm) : Fm × Bool := if pB (FmOk x) then (x, true) else (zFm, false)
noncomputable def reS (g : List Int → List Int) (n : Int) (x : Fm) : Fm × Bool := if pB (FmOk x ∧ 1 ≤ n ∧ n ≤ 99) then orN (x.chS g) else (zFm, false)
abbrev tupF (p : Fm × Bool) : Int × ByteArray × Int × List Int × List Fm × Bool := (p.1.f0, p.1.f1, p.1.f2, p.1.f3, p.1.f4, p.2)
end Go.Proofs.YteeepenncddnjaaDoor
end
section
namespace Go.Proofs.YteeepenncddnjaaDoor
open Go.RowKit Go.Proofs.YteeepenncddnjaaDoorW.PrintWords Go.Proofs.YteeepenncddnjaaDoorW.PrintLast Go.Proofs.YteeepenncddnjaaDoorW.PrintMore
set_option linter.unusedVariables false
set_option linter.unusedSimpArgs false
abbrev encS (xs : List ByteArray) : List Value := encs Value.string xs
/-- One form's name is told, if it is a name that is not told yet. -/
def nmStep (s : List ByteArray) (y : Fm) : List ByteArray := if y.f0 = 1 ∧ y.f1 ∉ s then s ++ [y.f1] else s
abbrev namesN (x : Fm) : List ByteArray := foldF nmStep x []
mutual
theorem cost_nm : ∀ x : Fm, costF (fun _ => 1) x = x.size
  | ⟨a, b, c, d, ks⟩ => by rw [costF, Fm.size_eq, cost_nmL ks]
theorem cost_nmL : ∀ ks : List Fm, costFs (fun _ => 1) ks = sizes ks
  | [] => by rw [costFs]; rfl
  | k :: ks => by rw [costFs, cost_nmL ks, cost_nm k]; rfl
end
theorem infoSt : (Tryd.prog.info? 9).map (fun i => (i.zero, i.size, i.bytes)) = some (some (.string ⟨#[]⟩), 1, 16) := by kernel_rfl
theorem own_CS {w : World} {v : Value} {xs : List ByteArray} {B : Nat} (h : w.ownsRow B 9 1 v xs.length (encS xs)) : ∃ A c, v = .slice A xs.length c ∧ xs.length ≤ c ∧ kS.C w A xs.length xs := by
  obtain ⟨A, c, e, hr⟩ := own_reads_row (R := kS.K w) h (Kd.reps_scalar xs) rfl
  subst e
  exact ⟨A, c, rfl, own_le h, hr⟩
/-- A block with one string reads as_ a row. -/
theorem one_str {W : World} {b : Nat} {n : ByteArray} (hb : W.heap[b]? = some (.cells #[.string n] 9 (0, 0))) : kS.C W (some ⟨b, 0, none⟩) 1 [n] := by
  refine Kd.C_of_reads (d := ByteArray.empty) (h1 := fun _ => rfl) ⟨rfl, by omega, fun hn => ⟨⟨b, 0, none⟩, rfl, fun i hi => ?_⟩⟩
  obtain rfl : i = 0 := by omega
  exact (blk_cell hb 0).trans rfl
end Go.Proofs.YteeepenncddnjaaDoor
end
section
namespace Go.Proofs.YteeepenncddnjaaDoor
open Go.RowKit Go.Proofs.YteeepenncddnjaaDoorW.PrintWords Go.Proofs.YteeepenncddnjaaDoorW.PrintLast Go.Proofs.YteeepenncddnjaaDoorW.PrintMore
set_option linter.unusedVariables false
set_option linter.unusedSimpArgs false
theorem lens_ge (l : List (List UInt8)) : l.length ≤ lens l := by
  induction l with
  | nil => simp [lens]
  | cons x r ih => simp only [lens, List.length_cons]; omega
/-- A row of strings is joined. -/
theorem join_own {w : World} {B : Nat} {v : Value} (L : List (List UInt8)) (s : UInt8) (h : w.ownsRow B 9 1 v (L.map B8).length (encS (L.map B8))) (hl : lens L ≤ 1000000) :
    Calls Tryd.prog 65 #[v, .string ⟨#[s]⟩] w (Ret w (.string (B8 (Lib.join L [s])))) := by
  have hn := lens_ge L
  rcases h with ⟨_, ⟨rfl, h0⟩ | ⟨g, cap, cur, rfl, hg, hh, hnc, hcm, hcs, htake⟩⟩
  · have : L = [] := List.eq_nil_of_length_eq_zero (by simpa using h0)
    subst this
    exact join_none_any none 0 _ w
  · rw [Nat.mul_one] at hcs htake
    have hJ := join_len L s
    refine (join_any g 0 cap (L.map B8) ⟨#[s]⟩ w (fun j x hx => ?_) (blk_lt hh) (by simp; omega) hnc (by rw [B8_map]; show (Lib.join L [s]).length ≤ _; omega)).mono ?_
    · have hjl : j < (L.map B8).length := (List.getElem?_eq_some_iff.1 hx).1
      have e1 : (encS (L.map B8))[j]? = some (.string x) := by simp only [encs, List.getElem?_map, hx, Option.map_some]
      rw [← htake, List.getElem?_take_of_lt (by simpa using hjl)] at e1
      rw [Nat.zero_add]
      refine (blk_cell hh j).trans ?_
      rw [← e1]
      simp
    · rintro e w' ⟨rfl, hb⟩
      exact ⟨by rw [B8_map]; rfl, hb⟩
theorem own_nil {W : World} {g B : Nat} (hg : B ≤ g) (hb : W.heap[g]? = some (.cells #[] 9 (0, 0))) : W.ownsRow B 9 1 (.slice (some ⟨g, 0, none⟩) 0 0) (([] : List (List UInt8)).map B8).length (encS (([] : List (List UInt8)).map B8)) :=
  ⟨by simp [encs], .inr ⟨_, 0, #[], rfl, hg, hb, Nat.le_refl _, Nat.zero_le _, rfl, by simp [encs]⟩⟩
set_option maxHeartbeats 4000000 in
set_option maxRecDepth 100000 in
theorem formText_any : ∀ (n : Nat) (x : Fm) (A3 : Option Addr) (c3 : Nat) (A4 : Option Addr) (c4 : Nat) (w : World), FmIn w x A3 c3 A4 c4 → IsOk n x → x.size ≤ 400 → TabP w →
    Calls Tryd.prog 37 #[.agg #[.int .i64 x.f0, .string x.f1, .int .i64 x.f2, .slice A3 x.f3.length c3, .slice A4 x.f4.length c4]] w (Ret w (.string (B8 x.txt))) := by
  intro n
  induction n with
  | zero => intro x A3 c3 A4 c4 w hin hok hs htab; exact absurd hok (fun h => h)
  | succ n ih =>
    intro x A3 c3 A4 c4 w hin hok hs htab
    have hbx := below_new w (.cells #[.int .i64 x.f0, .string x.f1, .int .i64 x.f2, .slice A3 x.f3.length c3, .slice A4 x.f4.length c4] 26)
    have hkb := blk_new w (.cells #[.int .i64 x.f0, .string x.f1, .int .i64 x.f2, .slice A3 x.f3.length c3, .slice A4 x.f4.length c4] 26)
    obtain ⟨p0, p1, p2, p3, p4⟩ := fm_cells hkb
    have HI := Lib.hid hin
    obtain ⟨wB, hwB⟩ : ∃ wB, wB = w.alloc (.cells #[.int .i64 x.f0, .string x.f1, .int .i64 x.f2, .slice A3 x.f3.length c3, .slice A4 x.f4.length c4] 26) := ⟨_, rfl⟩
    rw [← hwB] at hbx hkb
    have HX := Lib.hid (And.intro hbx hkb)
    have HWB := Lib.hid hwB
    have HZB := Lib.hid (show wB.heap.size = w.heap.size + 1 by rw [hwB]; simp)
    have HTB := Lib.hid (fun W (hb : Below w.heap.size w W) => htab.below hb)
    by_cases k1 : x.f0 = 1
    · have t1 : (x.f0 == 1) = true := beq_iff_eq.mpr k1
      have q := (isOk1 k1).1 hok
      have hm3 : x.f3.length ≤ 24 := q.2.2.1.1
      have HT := Lib.hid (show x.txt = nameT x.f1 x.f3 by rw [Fm.txt_eq, if_neg (by omega), if_pos k1])
      have HS := Lib.hid q.2.2.1
      have hn := nmOk_sz12 q.1
      clear hin hok hs hbx hkb k1 q ih htab hwB
      by_cases hz : x.f3.length = 0
      · have tz : ((x.f3.length : Int) == 0) = true := by rw [beq_iff_eq]; omega
        have tz2 : (x.f3.length == 0) = true := by rw [beq_iff_eq]; omega
        have HE := Lib.hid (show x.f1 = B8 x.txt by rw [HT.out, nameT, scT, if_pos hz, List.append_nil, B8_of])
        have HZ := Lib.hid hz
        clear hz
        go_enter Tryd.func37, Tryd.ntmps37
        go_wp2_with fail
        go_ret
        exact ⟨by rw [← HE.out]; rfl, below_new _ _⟩
      have tz : ((x.f3.length : Int) == 0) = false := by rw [beq_eq_false_iff_ne]; omega
      have tz2 : (x.f3.length == 0) = false := by rw [beq_eq_false_iff_ne]; omega
      have HZ := Lib.hid hz
      clear hz
      go_enter Tryd.func37, Tryd.ntmps37
      go_wp2_with fail
      clear p0 p1 p2 p3 p4
      go_loopg [3, 5, 23] x.f3.length (fun kq v3 v5 v23 w' => ∃ (i : Nat) (s : List ByteArray) (u : Value), i ≤ x.f3.length ∧ x.f3.length - i ≤ kq ∧ v23 = .int .i64 i ∧ v3 = u ∧ Aside0 (s = ((digs x.f3).take i).map B8) ∧ Aside0 (w'.ownsRow wB.heap.size 9 1 u s.length (encS s)) ∧ Aside0 (Below wB.heap.size wB w'))
      case atStart => exact ⟨0, [], _, Nat.zero_le _, by omega, rfl, rfl, ⟨rfl⟩, ⟨own_nil (by rw [HZB.out]; exact Nat.le_refl _) (by have := blk_new wB (.cells #[] 9); rw [HWB.out] at this; simpa using this)⟩, ⟨by rw [HWB.out]; exact below_new _ _⟩⟩
      case round =>
        obtain ⟨i, s, u, hi, hg, rfl, hu0, HS0, HO, HW⟩ := hrel
        have hu1 := hu0.symm
        subst hu1
        clear hu0
        obtain ⟨D, m, rfl, hDm, hDC⟩ := own_CS HO.out
        have hdl : s.length = i := by rw [HS0.out, List.length_map, List.length_take, digs_len]; omega
        by_cases hlt : i < x.f3.length
        · obtain ⟨ad, e, hcell⟩ := int_at (Kd.C_below HI.out.g3 (below_step HX.out.1 HW.out)) i hlt
          subst e
          have hv := HS.out.2 i hlt
          have HC := Lib.hid (itoa_any x.f3[i] wr (by omega) (by omega) (HTB.out _ (below_step HX.out.1 HW.out)))
          have HDL := Lib.hid (And.intro hdl hDC)
          clear hv hdl hDC
          go_wp2_with fail
          refine HC.out.mono ?_
          rintro e w1 ⟨rfl, hb0⟩
          have hn1 := below_new w1 (.cells #[.string (B8 (Lib.itoa x.f3[i]))] 9)
          have hb3 := below_step hb0 hn1
          have HR := Aside0.mk (Kd.R_of_own (ok := fun _ => True) (h1 := fun _ => rfl) (own_move HO.out (fun k hk => hb3.block k (own_lt HO.out k hk))) (fun _ _ => trivial))
          have HCN := Aside0.mk (one_str (blk_new w1 (.cells #[.string (B8 (Lib.itoa x.f3[i]))] 9)))
          have HB := Lib.hid (below_step HW.out hb3)
          have hi25 : i ≤ 24 := by omega
          clear hb0 hn1 hb3 hcell
          rw [show (⟨(Lib.itoa x.f3[i]).toArray⟩ : ByteArray) = B8 (Lib.itoa x.f3[i]) from rfl]
          go_wp2_with (first | ((with_reducible refine gate_dst (N := 31) rfl ?_); refine Kd.R_append_row Value.string ByteArray.empty (w0 := wB) wB.heap.size rfl (.tmp 27) (.tmp 30) 83 9 (.string ⟨#[]⟩) 16 rfl Tryd.underlying83 infoSt rfl (by decide) (.slice D s.length m) s [B8 (Lib.itoa x.f3[i])] (some ⟨w1.heap.size, 0, none⟩) 1 1 (fun _ => True) rfl rfl (fun _ _ => trivial) HR.out HCN.out HB.out HB.out.size (by have := HDL.out.1; omega) ?_; intro v1 w2 ho1 hb1 hg1 hat1; have HG := Lib.hid (And.intro (Kd.own_of_R ho1) hb1); clear ho1 hb1 hg1 hat1))
          go_roundg (x.f3.length - (i + 1))
          case measure => omega
          case rel =>
            refine ⟨i + 1, s ++ [B8 (Lib.itoa x.f3[i])], _, by omega, Nat.le_refl _, by go_num, rfl, ⟨by rw [HS0.out, digs_take x.f3 i hlt, List.map_append]; rfl⟩, ⟨?_⟩, ⟨HG.out.2⟩⟩
            have := HG.out.1
            exact this
        · obtain rfl : i = x.f3.length := by omega
          have hb9 := HW.out
          have hk9 := blk_below HX.out.2 hb9
          have hc1 : wr.cell? ⟨w.heap.size, 1, none⟩ = some (.string x.f1) := (fm_cells hk9).2.1
          have HJ := Lib.hid (fun W (hb : Below wr.heap.size wr W) => join_own (w := W) (B := wB.heap.size) (v := .slice D s.length m) (digs x.f3) 44 (by have := own_move HO.out (fun k hk => hb.block k (own_lt HO.out k hk)); rwa [show (digs x.f3).map B8 = s from by rw [HS0.out, List.take_of_length_le (by rw [digs_len]; exact Nat.le_refl _)]]) (by have := lens_digs x.f3 HS.out; omega))
          have HE := Lib.hid (show x.f1 ++ ⟨#[123]⟩ ++ B8 (Lib.join (digs x.f3) [44]) ++ ⟨#[125]⟩ = B8 x.txt by
            rw [HT.out, nameT, scT, if_neg HZ.out, ← B8_of x.f1, show (⟨#[123]⟩ : ByteArray) = B8 [123] from rfl, show (⟨#[125]⟩ : ByteArray) = B8 [125] from rfl, B8_append, B8_append, B8_append, B8_toList]; simp [List.append_assoc])
          have hsz : (B8 (Lib.join (digs x.f3) [44])).size ≤ 1000 := by rw [B8_size]; have := join_len (digs x.f3) 44; have := lens_digs x.f3 HS.out; omega
          have HB := Lib.hid (below_step HX.out.1 hb9)
          clear hb9 hk9
          generalize B8 (Lib.join (digs x.f3) [44]) = t at hsz HE HJ
          have f1 : (9223372036854775807 < x.f1.size + 1) = False := eq_false (by omega)
          have f2 : (9223372036854775807 < x.f1.size + 1 + t.size) = False := eq_false (by omega)
          have f3 : (9223372036854775807 < x.f1.size + 1 + t.size + 1) = False := eq_false (by omega)
          clear hDC hdl
          go_wp2_with fail
          go_region_held3 (fun W => W.cell? ⟨w.heap.size, 1, none⟩ = some (.string x.f1)) (first | go_keep | exact ck0 (below_step (Below.refl _ _).drew hba) hc1)
            ((go_at_call 65; refine (HJ.out _ (Below.refl _ _).drew).mono ?_; rintro e wa ⟨rfl, hba⟩))
          have HB2 := Lib.hid (below_step HB.out (below_step (Below.refl _ _).drew hba))
          clear hba hc1
          go_wp2_with fail
          go_ret
          exact ⟨by rw [← HE.out]; rfl, HB2.out⟩
    have t1 : (x.f0 == 1) = false := beq_eq_false_iff_ne.mpr k1
    by_cases k2 : x.f0 = 2
    · have t2 : (x.f0 == 2) = true := beq_iff_eq.mpr k2
      have q := (isOk2 k2).1 hok
      have HT := Lib.hid (show B8 (Lib.itoa x.f2) = B8 x.txt by rw [Fm.txt_eq, if_pos k2])
      have HC := Lib.hid (fun W (hb : Below w.heap.size w W) => itoa_any x.f2 W (by omega) (by omega) (HTB.out W hb))
      have HN := Lib.hid (below_new w (.cells #[.int .i64 x.f0, .string x.f1, .int .i64 x.f2, .slice A3 x.f3.length c3, .slice A4 x.f4.length c4] 26))
      clear hin hok hs hbx hkb k1 k2 q ih htab hwB
      go_enter Tryd.func37, Tryd.ntmps37
      go_wp2_with fail
      refine (HC.out _ HN.out).mono ?_
      rintro e w1 ⟨rfl, hb⟩
      have HB := Lib.hid (below_step HN.out hb)
      clear hb p0 p1 p2 p3 p4
      go_wp2_with fail
      go_ret
      exact ⟨by rw [← HT.out]; rfl, HB.out⟩
    have t2 : (x.f0 == 2) = false := beq_eq_false_iff_ne.mpr k2
    have q := (isOk3 k1 k2).1 hok
    have hm4 : x.f4.length ≤ 400 := by have := szs_len x.f4; rw [Fm.size_eq] at hs; omega
    have HT := Lib.hid (show x.txt = 40 :: (Lib.join (txtL x.f4) [32] ++ [41]) by rw [Fm.txt_eq, if_neg k2, if_neg k1])
    have HK := Lib.hid q.2.2.2.2
    have HS := Lib.hid (show sizes x.f4 ≤ 399 by rw [Fm.size_eq] at hs; omega)
    have IH := Lib.hid ih
    clear hin hok hs hbx hkb k1 k2 q ih htab hwB
    go_enter Tryd.func37, Tryd.ntmps37
    go_wp2_with fail
    clear p0 p1 p2 p3 p4
    go_loopg [6, 8, 49] x.f4.length (fun kq v6 v8 v49 w' => ∃ (i : Nat) (s : List ByteArray) (u : Value), i ≤ x.f4.length ∧ x.f4.length - i ≤ kq ∧ v49 = .int .i64 i ∧ v6 = u ∧ Aside0 (s = ((txtL x.f4).take i).map B8) ∧ Aside0 (w'.ownsRow wB.heap.size 9 1 u s.length (encS s)) ∧ Aside0 (Below wB.heap.size wB w'))
    case atStart => exact ⟨0, [], _, Nat.zero_le _, by omega, rfl, rfl, ⟨rfl⟩, ⟨own_nil (by rw [HZB.out]; exact Nat.le_refl _) (by have := blk_new wB (.cells #[] 9); rw [HWB.out] at this; simpa using this)⟩, ⟨by rw [HWB.out]; exact below_new _ _⟩⟩
    case round =>
      obtain ⟨i, s, u, hi, hg, rfl, hu0, HS0, HO, HW⟩ := hrel
      have hu1 := hu0.symm
      subst hu1
      clear hu0
      obtain ⟨D, m, rfl, hDm, hDC⟩ := own_CS HO.out
      have hdl : s.length = i := by rw [HS0.out, List.length_map, List.length_take, txtL_len]; omega
      have HB0 := Lib.hid (below_step HX.out.1 HW.out)
      by_cases hlt : i < x.f4.length
      · obtain ⟨ad, G3, m3, G4, m4, e, g0, g1, g2, g3, g4, hk⟩ := kid_at HI.out.g4 i hlt
        subst e
        replace g0 := ck0 HB0.out g0
        replace g1 := ck0 HB0.out g1
        replace g2 := ck0 HB0.out g2
        replace g3 := ck0 HB0.out g3
        replace g4 := ck0 HB0.out g4
        have hko := HK.out _ (List.getElem_mem hlt)
        have hsz : x.f4[i].size ≤ 399 := by have := sizes_mem (List.getElem_mem hlt); have := HS.out; omega
        have hnb := below_new wr (.cells #[.int .i64 x.f4[i].f0, .string x.f4[i].f1, .int .i64 x.f4[i].f2, .slice G3 x.f4[i].f3.length m3, .slice G4 x.f4[i].f4.length m4] 26)
        have HC := Lib.hid (IH.out x.f4[i] G3 m3 G4 m4 (wr.alloc (.cells #[.int .i64 x.f4[i].f0, .string x.f4[i].f1, .int .i64 x.f4[i].f2, .slice G3 x.f4[i].f3.length m3, .slice G4 x.f4[i].f4.length m4] 26)) (hk.below (below_step HB0.out hnb)) hko (by omega) (HTB.out _ (below_step HB0.out hnb)))
        have HDL := Lib.hid (And.intro hdl hDC)
        have HNB := Lib.hid hnb
        clear hk hko hsz hdl hDC hnb
        go_wp2_with fail
        refine HC.out.mono ?_
        rintro e w1 ⟨rfl, hb0⟩
        clear g0 g1 g2 g3 g4
        have HTI := Lib.hid (show s ++ [B8 x.f4[i].txt] = ((txtL x.f4).take (i + 1)).map B8 by rw [HS0.out, txtL_take x.f4 i hlt, List.map_append]; rfl)
        generalize B8 x.f4[i].txt = t at HTI HC ⊢
        have hn1 := below_new w1 (.cells #[.string t] 9)
        have hb3 := below_step (below_step HNB.out hb0) hn1
        have HR := Aside0.mk (Kd.R_of_own (ok := fun _ => True) (h1 := fun _ => rfl) (own_move HO.out (fun k hk => hb3.block k (own_lt HO.out k hk))) (fun _ _ => trivial))
        have HCN := Aside0.mk (one_str (blk_new w1 (.cells #[.string t] 9)))
        have HB := Lib.hid (below_step HW.out hb3)
        have hi25 : i ≤ 400 := by omega
        clear hb0 hn1 hb3
        go_wp2_with (first | ((with_reducible refine gate_dst (N := 57) rfl ?_); refine Kd.R_append_row Value.string ByteArray.empty (w0 := wB) wB.heap.size rfl (.tmp 53) (.tmp 56) 83 9 (.string ⟨#[]⟩) 16 rfl Tryd.underlying83 infoSt rfl (by decide) (.slice D s.length m) s [t] (some ⟨w1.heap.size, 0, none⟩) 1 1 (fun _ => True) rfl rfl (fun _ _ => trivial) HR.out HCN.out HB.out HB.out.size (by have := HDL.out.1; omega) ?_; intro v1 w2 ho1 hb1 hg1 hat1; have HG := Lib.hid (And.intro (Kd.own_of_R ho1) hb1); clear ho1 hb1 hg1 hat1))
        go_roundg (x.f4.length - (i + 1))
        case measure => omega
        case rel =>
          refine ⟨i + 1, s ++ [t], _, by omega, Nat.le_refl _, by go_num, rfl, ⟨HTI.out⟩, ⟨?_⟩, ⟨HG.out.2⟩⟩
          have := HG.out.1
          exact this
      · obtain rfl : i = x.f4.length := by omega
        have HJ := Lib.hid (fun W (hb : Below wr.heap.size wr W) => join_own (w := W) (B := wB.heap.size) (v := .slice D s.length m) (txtL x.f4) 32 (by have := own_move HO.out (fun k hk => hb.block k (own_lt HO.out k hk)); rwa [show (txtL x.f4).map B8 = s from by rw [HS0.out, List.take_of_length_le (by rw [txtL_len]; exact Nat.le_refl _)]]) (by have := lens_txt HK.out; have := HS.out; omega))
        have HE := Lib.hid (show ⟨#[40]⟩ ++ B8 (Lib.join (txtL x.f4) [32]) ++ ⟨#[41]⟩ = B8 x.txt by
          rw [HT.out, show (⟨#[40]⟩ : ByteArray) = B8 [40] from rfl, show (⟨#[41]⟩ : ByteArray) = B8 [41] from rfl, B8_append, B8_append]; rfl)
        have hsz : (B8 (Lib.join (txtL x.f4) [32])).size ≤ 80000 := by rw [B8_size]; have := join_len (txtL x.f4) 32; have := lens_txt HK.out; have := HS.out; omega
        clear hDC hdl
        generalize B8 (Lib.join (txtL x.f4) [32]) = t at hsz HE HJ
        go_wp2_with fail
        refine (HJ.out _ (Below.refl _ _)).mono ?_
        rintro e w1 ⟨rfl, hb⟩
        have HB2 := Lib.hid (below_step HB0.out hb)
        clear hb
        go_wp2_with fail
        go_ret
        exact ⟨by rw [← HE.out]; rfl, HB2.out⟩
end Go.Proofs.YteeepenncddnjaaDoor
end
section
namespace Go.Proofs.YteeepenncddnjaaDoor
open Go.RowKit Go.Proofs.YteeepenncddnjaaDoorW.PrintWords Go.Proofs.YteeepenncddnjaaDoorW.PrintLast Go.Proofs.YteeepenncddnjaaDoorW.PrintMore
set_option linter.unusedVariables false
set_option linter.unusedSimpArgs false
noncomputable def fmtT (x : Fm) : ByteArray := if pB (FmOk x) = true then B8 x.txt else ⟨#[]⟩
set_option maxHeartbeats 4000000 in
set_option maxRecDepth 100000 in
theorem implFormat_any (x : Fm) (A3 : Option Addr) (c3 : Nat) (A4 : Option Addr) (c4 : Nat) (w : World) (hin : FmIn w x A3 c3 A4 c4) (ht : x.tot ≤ 1048576) (htab : TabP w) :
    Calls Tryd.prog 12 #[.agg #[.int .i64 x.f0, .string x.f1, .int .i64 x.f2, .slice A3 x.f3.length c3, .slice A4 x.f4.length c4]] w (Ret w (.string (fmtT x))) := by
  have hbx := below_new w (.cells #[.int .i64 x.f0, .string x.f1, .int .i64 x.f2, .slice A3 x.f3.length c3, .slice A4 x.f4.length c4] 26)
  have hkb := blk_new w (.cells #[.int .i64 x.f0, .string x.f1, .int .i64 x.f2, .slice A3 x.f3.length c3, .slice A4 x.f4.length c4] 26)
  obtain ⟨p0, p1, p2, p3, p4⟩ := fm_cells hkb
  have HI := Lib.hid hin
  have HX := Lib.hid (And.intro hbx hkb)
  have HTB := Lib.hid (fun W (hb : Below w.heap.size w W) => htab.below hb)
  have HC := Lib.hid (implValid_any x A3 c3 A4 c4 _ (hin.below hbx) ht)
  clear hin ht htab hbx hkb
  by_cases hv : FmOk x
  · have HT := Lib.hid (show fmtT x = B8 x.txt by rw [fmtT, if_pos (pB_iff.2 hv)])
    rw [← pB_yes hv] at HC
    have HV := Lib.hid hv
    clear hv
    go_enter Tryd.func12, Tryd.ntmps12
    go_wp2_with fail
    refine HC.out.mono ?_
    rintro e w1 ⟨rfl, hb⟩
    clear p0 p1 p2 p3 p4
    obtain ⟨p0, p1, p2, p3, p4⟩ := fm_cells (blk_below HX.out.2 hb)
    have HB := Lib.hid (below_step HX.out.1 hb)
    clear hb
    go_wp2_with fail
    refine (formText_any 40 x A3 c3 A4 c4 w1 (HI.out.below HB.out) HV.out.1 (by have := HV.out.2; omega) (HTB.out _ HB.out)).mono ?_
    rintro e w2 ⟨rfl, hb⟩
    have HB2 := Lib.hid (below_step HB.out hb)
    clear hb p0 p1 p2 p3 p4
    go_wp2_with fail
    go_ret
    exact ⟨by rw [HT.out]; rfl, HB2.out⟩
  · have HT := Lib.hid (show fmtT x = ⟨#[]⟩ by rw [fmtT, if_neg (fun h => hv (pB_iff.1 h))])
    rw [← pB_no hv] at HC
    clear hv
    go_enter Tryd.func12, Tryd.ntmps12
    go_wp2_with fail
    refine HC.out.mono ?_
    rintro e w1 ⟨rfl, hb⟩
    have HB := Lib.hid (below_step HX.out.1 hb)
    clear hb p0 p1 p2 p3 p4
    go_wp2_with fail
    go_ret
    exact ⟨by rw [HT.out]; rfl, HB.out⟩
set_option maxHeartbeats 4000000 in
set_option maxRecDepth 100000 in
theorem specFormat_any (x : Fm) (A3 : Option Addr) (c3 : Nat) (A4 : Option Addr) (c4 : Nat) (w : World) (hin : FmIn w x A3 c3 A4 c4) (ht : x.tot ≤ 1048576) :
    Calls Tryd.prog 16 #[.agg #[.int .i64 x.f0, .string x.f1, .int .i64 x.f2, .slice A3 x.f3.length c3, .slice A4 x.f4.length c4]] w (Ret w (.string (fmtT x))) := by
  have hbx := below_new w (.cells #[.int .i64 x.f0, .string x.f1, .int .i64 x.f2, .slice A3 x.f3.length c3, .slice A4 x.f4.length c4] 26)
  have hkb := blk_new w (.cells #[.int .i64 x.f0, .string x.f1, .int .i64 x.f2, .slice A3 x.f3.length c3, .slice A4 x.f4.length c4] 26)
  obtain ⟨p0, p1, p2, p3, p4⟩ := fm_cells hkb
  have HI := Lib.hid hin
  have HX := Lib.hid (And.intro hbx hkb)
  have HC := Lib.hid (specValid_any x A3 c3 A4 c4 _ (hin.below hbx) ht)
  clear hin ht hbx hkb
  by_cases hv : FmOk x
  · have HT := Lib.hid (show fmtT x = B8 x.txt by rw [fmtT, if_pos (pB_iff.2 hv)])
    rw [← pB_yes hv] at HC
    have HV := Lib.hid hv
    clear hv
    go_enter Tryd.func16, Tryd.ntmps16
    go_wp2_with fail
    refine HC.out.mono ?_
    rintro e w1 ⟨rfl, hb⟩
    clear p0 p1 p2 p3 p4
    obtain ⟨p0, p1, p2, p3, p4⟩ := fm_cells (blk_below HX.out.2 hb)
    have HB := Lib.hid (below_step HX.out.1 hb)
    clear hb
    go_wp2_with fail
    refine (l1Text_any 40 x A3 c3 A4 c4 w1 (HI.out.below HB.out) HV.out.1 (by have := HV.out.2; omega)).mono ?_
    rintro e w2 ⟨rfl, hb⟩
    have HB2 := Lib.hid (below_step HB.out hb)
    clear hb p0 p1 p2 p3 p4
    go_wp2_with fail
    go_ret
    exact ⟨by rw [HT.out]; rfl, HB2.out⟩
  · have HT := Lib.hid (show fmtT x = ⟨#[]⟩ by rw [fmtT, if_neg (fun h => hv (pB_iff.1 h))])
    rw [← pB_no hv] at HC
    clear hv
    go_enter Tryd.func16, Tryd.ntmps16
    go_wp2_with fail
    refine HC.out.mono ?_
    rintro e w1 ⟨rfl, hb⟩
    have HB := Lib.hid (below_step HX.out.1 hb)
    clear hb p0 p1 p2 p3 p4
    go_wp2_with fail
    go_ret
    exact ⟨by rw [HT.out]; rfl, HB.out⟩
end Go.Proofs.YteeepenncddnjaaDoor
end
section
namespace Go.Proofs.YteeepenncddnjaaDoor
open Go.RowKit Go.Proofs.YteeepenncddnjaaDoorW.PrintWords Go.Proofs.YteeepenncddnjaaDoorW.PrintLast Go.Proofs.YteeepenncddnjaaDoorW.PrintMore
open Go.ChangeShapes Go.WideShapes Go.ChangeAt Go.Deep
set_option linter.unusedVariables false

section
variable {H : Type} {enc : TypeId × Value → H} {W : World} {held : Bool}
theorem trod_ints (fuel : Nat) (cs : List Value) (y : DataW H × List MemPlace) (h : DataW.trod enc Tryd.prog W 0 (fun _ => true) held fuel 23 cs = some y) :
    ∃ (A : Option Addr) (c : Nat) (zs : List Int), cs = [.slice A zs.length c] ∧ zs.length ≤ c ∧ kI.C W A zs.length zs := by
  rcases open_slice1 Tryd.underlying23 (by kernel_rfl) h with ⟨rfl, _⟩ | ⟨a, len, cap, m, n, V, D, Pl, rfl, _, hl, hm, hmm, rfl, hx⟩
  · exact ⟨none, 0, [], rfl, Nat.le_refl _, Kd.C_nil _ _⟩
  · obtain ⟨f, hf⟩ := choose_lt (α := Int) (n := len) (p := fun i z => W.cell? (a.add i) = some (.int .i64 z)) (fun i hi => by
      obtain ⟨h1, h2⟩ := hx i (by rw [hmm]; simp; omega)
      obtain ⟨z, e, _⟩ := DataW.trod_int Tryd.underlying3 h2
      rw [List.cons.injEq] at e
      exact ⟨z, by rw [h1, e.1]⟩)
    have hlen : ((List.range len).map f).length = len := by simp
    refine ⟨some a, cap, (List.range len).map f, by rw [hlen], by omega, by rw [hlen], by rw [hlen]; unfold maxLen at hm; omega, fun _ => ⟨a, rfl, fun j p hj => ⟨[.int .i64 p], rfl, rfl, fun i u hu => ?_⟩⟩⟩
    have hjl : j < len := by have := (List.getElem?_eq_some_iff.1 hj).1; omega
    have hp : f j = p := by simpa [hjl] using hj
    cases i with
    | zero =>
      have : Value.int .i64 p = u := by simpa using hu
      subst this
      rw [← hp]
      show W.cell? (a.add (j * 1 + 0)) = _
      simpa using hf j hjl
    | succ i => simp at hu
instance : Inhabited Fm := ⟨zFm⟩
theorem len5 {α : Type} {l : List α} (h : l.length = 5) : ∃ a b c d e, l = [a, b, c, d, e] := by
  rcases l with _ | ⟨a, _ | ⟨b, _ | ⟨c, _ | ⟨d, _ | ⟨e, _ | ⟨f, l⟩⟩⟩⟩⟩⟩ <;> simp at h
  exact ⟨a, b, c, d, e, rfl⟩
theorem trod_forms_of (fuel : Nat) (ih : ∀ m, m < fuel → ∀ (cs : List Value) (y : DataW H × List MemPlace), DataW.trod enc Tryd.prog W 0 (fun _ => true) held m 41 cs = some y → ∃ x, kF.K W x cs ∧ NmSmall x)
    (cs : List Value) (y : DataW H × List MemPlace) (h : DataW.trod enc Tryd.prog W 0 (fun _ => true) held fuel 39 cs = some y) :
    ∃ (A : Option Addr) (c : Nat) (ks : List Fm), cs = [.slice A ks.length c] ∧ ks.length ≤ c ∧ kF.C W A ks.length ks ∧ ∀ k, k ∈ ks → NmSmall k := by
  rcases DataW.trod_slice Tryd.underlying39 h with ⟨rfl, _⟩ | ⟨a, len, cap, elems, rest, n, rfl, rfl, rfl, hb, hl, hm, hlen, hel, _, _⟩
  · exact ⟨none, 0, [], rfl, Nat.le_refl _, Kd.C_nil _ _, fun k hk => by cases hk⟩
  · have h5 : Tryd.prog.cellsOf 41 = 5 := by kernel_rfl
    rw [h5] at hel
    obtain ⟨f, hf⟩ := choose_lt (α := Fm) (n := len) (p := fun i x => (∃ cs', W.cells? 0 (a.add (i * 5)) 5 = some cs' ∧ kF.K W x cs') ∧ NmSmall x) (fun i hi => by
      have h1 := hel i hi
      rw [List.getElem?_eq_getElem (by omega)] at h1
      obtain ⟨cs', h2, h3⟩ := Option.bind_eq_some_iff.1 h1
      obtain ⟨x, hK, hN⟩ := ih n (Nat.lt_succ_self n) cs' _ h3
      exact ⟨x, ⟨cs', h2, hK⟩, hN⟩)
    have hlen2 : ((List.range len).map f).length = len := by simp
    refine ⟨some a, cap, (List.range len).map f, by rw [hlen2], by omega, ⟨by rw [hlen2], by rw [hlen2]; unfold maxLen at hm; omega, fun _ => ⟨a, rfl, fun j p hj => ?_⟩⟩, fun k hk => ?_⟩
    · have hjl : j < len := by have := (List.getElem?_eq_some_iff.1 hj).1; omega
      have hp : f j = p := by simpa [hjl] using hj
      obtain ⟨⟨cs', h2, hK⟩, _⟩ := hf j hjl
      rw [hp] at hK
      obtain ⟨_, h3, h4⟩ := World.cells?_some h2
      refine ⟨cs', h3, hK, fun i u hu => ?_⟩
      have hi : i < 5 := by have := (List.getElem?_eq_some_iff.1 hu).1; omega
      have := h4 i hi
      rw [Deep.add_add, hu] at this
      exact this
    · obtain ⟨j, hj, rfl⟩ := List.mem_map.1 hk
      exact (hf j (List.mem_range.1 hj)).2
set_option maxRecDepth 100000 in
theorem trod_form : ∀ (fuel : Nat) (cs : List Value) (y : DataW H × List MemPlace), DataW.trod enc Tryd.prog W 0 (fun _ => true) held fuel 41 cs = some y → ∃ x, kF.K W x cs ∧ NmSmall x := by
  intro fuel
  induction fuel using Nat.strongRecOn with
  | _ fuel ih =>
    intro cs y h
    obtain ⟨xs, n, hfu, rfl, hl, hlen, hf⟩ := DataW.trod_struct Tryd.underlying41 h
    rw [show Tryd.prog.cellsOf 41 = 5 from by kernel_rfl] at hl
    obtain ⟨c0, c1, c2, c3, c4, rfl⟩ := len5 hl
    obtain ⟨y0, y1, y2, y3, y4, rfl⟩ := len5 (show xs.length = 5 from hlen)
    have f0 := hf 0 _ rfl
    have f1 := hf 1 _ rfl
    have f2 := hf 2 _ rfl
    have f3 := hf 3 _ rfl
    have f4 := hf 4 _ rfl
    simp only [List.getElem_toArray, List.getElem_cons_zero, List.getElem_cons_succ] at f0 f1 f2 f3 f4
    simp only [show Tryd.prog.cellsOf 3 = 1 from by kernel_rfl, show Tryd.prog.cellsOf 9 = 1 from by kernel_rfl, show Tryd.prog.cellsOf 23 = 1 from by kernel_rfl, show Tryd.prog.cellsOf 39 = 1 from by kernel_rfl, List.drop_succ_cons, List.drop_zero, List.take_succ_cons, List.take_zero, List.getElem?_cons_zero, List.getElem?_cons_succ] at f0 f1 f2 f3 f4
    obtain ⟨z0, e0, _⟩ := DataW.trod_int Tryd.underlying3 f0
    obtain ⟨s1, e1, _, hs1⟩ := DataW.trod_string Tryd.underlying9 f1
    obtain ⟨z2, e2, _⟩ := DataW.trod_int Tryd.underlying3 f2
    obtain ⟨A3, d3, zs, e3, l3, r3⟩ := trod_ints n _ _ f3
    obtain ⟨A4, d4, ks, e4, l4, r4, hN⟩ := trod_forms_of n (fun m hm => ih m (by omega)) _ _ f4
    rw [List.cons.injEq] at e0 e1 e2 e3 e4
    obtain ⟨rfl, _⟩ := e0
    obtain ⟨rfl, _⟩ := e1
    obtain ⟨rfl, _⟩ := e2
    obtain ⟨rfl, _⟩ := e3
    obtain ⟨rfl, _⟩ := e4
    exact ⟨⟨z0, s1, z2, zs, ks⟩, kF_mk (x := ⟨z0, s1, z2, zs, ks⟩) ⟨l3, r3, l4, r4⟩, .mk _ (by unfold maxLen at hs1; exact hs1) hN⟩
set_option maxRecDepth 100000 in
/-- An argument that is a form. -/
theorem open_form {v : Value} {d : DataW H} {p : List MemPlace} (hv : Value.okWide Tryd.prog W .any 0 41 v) (h : DataW.Trod enc Tryd.prog W 0 (fun _ => true) held 41 v d p) :
    ∃ (x : Fm) (A3 : Option Addr) (c3 : Nat) (A4 : Option Addr) (c4 : Nat), v = .agg #[.int .i64 x.f0, .string x.f1, .int .i64 x.f2, .slice A3 x.f3.length c3, .slice A4 x.f4.length c4] ∧ FmIn W x A3 c3 A4 c4 ∧ NmSmall x := by
  obtain ⟨cs, rfl, hsz⟩ := okWide_struct Tryd.underlying41 hv
  obtain ⟨fuel, hf⟩ := h
  obtain ⟨x, hK, hN⟩ := trod_form fuel _ _ hf
  obtain ⟨A3, c3, A4, c4, e, hin⟩ := kF_open hK
  refine ⟨x, A3, c3, A4, c4, ?_, hin, hN⟩
  have e2 : cs.toList = fmC x A3 c3 A4 c4 := by simpa [Value.cells] using e
  have e3 : cs = #[.int .i64 x.f0, .string x.f1, .int .i64 x.f2, .slice A3 x.f3.length c3, .slice A4 x.f4.length c4] := by
    rw [← Array.toArray_toList (xs := cs), e2]
  rw [e3]
end
end Go.Proofs.YteeepenncddnjaaDoor
end
