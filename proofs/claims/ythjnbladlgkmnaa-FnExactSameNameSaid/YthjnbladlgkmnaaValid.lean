/- Contracts of l1Is, FormValid (the reference's and the program's), formOk: a form is in order. -/
import Derived.Test.YthjnbladlgkmnaaScopes
import Derived.Test.YthjnbladlgkmnaaNm
import Derived.Test.YthjnbladlgkmnaaSize
namespace Go.Proofs.Ythjnbladlgkmnaa
open Go.RowKit Go.Proofs.YthjnbladlgkmnaaW.PrintWords Go.Proofs.YthjnbladlgkmnaaW.PrintLast Go.Proofs.YthjnbladlgkmnaaW.PrintMore
set_option linter.unusedVariables false
set_option linter.unusedSimpArgs false
def IsOk : Nat → Fm → Prop
  | 0, _ => False
  | n + 1, x => (x.kind = 1 ∧ NmOk x.name ∧ x.num = 0 ∧ ScOk x.sc ∧ x.kids.length = 0) ∨ (x.kind = 2 ∧ x.name.toList = [] ∧ 0 ≤ x.num ∧ x.num ≤ 999 ∧ x.sc.length = 0 ∧ x.kids.length = 0) ∨ (x.kind = 3 ∧ x.name.toList = [] ∧ x.num = 0 ∧ x.sc.length = 0 ∧ ∀ k, k ∈ x.kids → IsOk n k)
theorem isOk1 {n : Nat} {x : Fm} (h : x.kind = 1) : IsOk (n + 1) x ↔ NmOk x.name ∧ x.num = 0 ∧ ScOk x.sc ∧ x.kids.length = 0 := by
  unfold IsOk
  constructor
  · rintro (⟨_, h⟩ | ⟨h2, _⟩ | ⟨h2, _⟩)
    · exact h
    · omega
    · omega
  · exact fun h2 => .inl ⟨h, h2⟩
theorem isOk2 {n : Nat} {x : Fm} (h : x.kind = 2) : IsOk (n + 1) x ↔ x.name.toList = [] ∧ 0 ≤ x.num ∧ x.num ≤ 999 ∧ x.sc.length = 0 ∧ x.kids.length = 0 := by
  unfold IsOk
  constructor
  · rintro (⟨h2, _⟩ | ⟨_, h⟩ | ⟨h2, _⟩)
    · omega
    · exact h
    · omega
  · exact fun h2 => .inr (.inl ⟨h, h2⟩)
theorem isOk3 {n : Nat} {x : Fm} (h1 : x.kind ≠ 1) (h2 : x.kind ≠ 2) : IsOk (n + 1) x ↔ x.kind = 3 ∧ x.name.toList = [] ∧ x.num = 0 ∧ x.sc.length = 0 ∧ ∀ k, k ∈ x.kids → IsOk n k := by
  conv => lhs; unfold IsOk
  constructor
  · rintro (⟨h, _⟩ | ⟨h, _⟩ | h)
    · exact absurd h h1
    · exact absurd h h2
    · exact h
  · exact fun h => .inr (.inr h)
theorem name_size {x : Fm} (h : x.tot ≤ 1048576) : x.name.size ≤ 140737488351232 := by rw [Fm.tot_eq] at h; omega
theorem kid_tot {x k : Fm} (h : x.tot ≤ 1048576) (hk : k ∈ x.kids) : k.tot ≤ 1048576 := by
  have := totL_mem hk
  rw [Fm.tot_eq] at h
  omega
set_option maxHeartbeats 4000000 in
set_option maxRecDepth 100000 in
theorem l1Is_any : ∀ (n : Nat) (x : Fm) (A3 : Option Addr) (c3 : Nat) (A4 : Option Addr) (c4 : Nat) (m : Int) (w : World), m = n → n ≤ 1000 → FmIn w x A3 c3 A4 c4 → x.tot ≤ 1048576 →
    Calls Try.prog 125 #[.agg #[.int .i64 x.kind, .string x.name, .int .i64 x.num, .slice A3 x.sc.length c3, .slice A4 x.kids.length c4], .int .i64 m] w (Ret w (.bool (pB (IsOk n x)))) := by
  intro n
  induction n with
  | zero =>
    intro x A3 c3 A4 c4 m w hm hn hin ht
    have tm : (m == 0) = true := by rw [beq_iff_eq]; omega
    clear hin ht hm
    go_enter Try.func125, Try.ntmps125
    go_wp2_with fail
    go_ret
    exact ⟨ret_b (pB_no (fun h => h)), below_new w _⟩
  | succ n ih =>
    intro x A3 c3 A4 c4 m w hm hn hin ht
    have tm : (m == 0) = false := by rw [beq_eq_false_iff_ne]; omega
    have m1 : -1000 ≤ m := by omega
    have m2 : m ≤ 1001 := by omega
    have HM := Lib.hid hm
    have HI := Lib.hid hin
    have HT := Lib.hid ht
    have IH := Lib.hid ih
    have hmax := hin.g4.2.1
    have HN := Lib.hid (specName_any x.name (w.alloc (.cells #[.int .i64 x.kind, .string x.name, .int .i64 x.num, .slice A3 x.sc.length c3, .slice A4 x.kids.length c4] 34)) (name_size ht))
    clear hm hin ht ih hn
    by_cases k1 : x.kind = 1
    · have e1 : (x.kind == 1) = true := by simpa using k1
      have K1 := Lib.hid k1
      clear k1
      go_enter Try.func125, Try.ntmps125
      go_wp2_with fail
      refine HN.out.mono ?_
      rintro e w1 ⟨rfl, hb1⟩
      obtain ⟨z1, b1⟩ := one_new hb1
      obtain ⟨p0, p1, p2, p3, p4⟩ := fm_cells z1
      have B1 := Lib.hid b1
      have HS := Lib.hid (l1Scopes_any x.sc A3 c3 w1 (Kd.C_below HI.out.g3 b1) HI.out.l3)
      clear hb1 b1
      cases hq : nmB x.name with
      | false =>
        have HQ := Lib.hid hq
        clear hq
        go_wp2_with fail
        go_ret
        exact ⟨ret_b (pB_no (fun h => by have := nmB_t ((isOk1 K1.out).1 h).1; rw [HQ.out] at this; cases this)), B1.out⟩
      | true =>
        have HQ := Lib.hid hq
        clear hq
        by_cases h2 : x.num = 0
        · have t2 : (x.num == 0) = true := by simpa using h2
          have H2 := Lib.hid h2
          clear h2
          go_wp2_with fail
          refine HS.out.mono ?_
          rintro e w2 ⟨rfl, hb2⟩
          have z2 := blk_below z1 hb2
          have B2 := Lib.hid (below_step B1.out hb2)
          clear hb2 z1 p0 p1 p2 p3 p4
          obtain ⟨p0, p1, p2, p3, p4⟩ := fm_cells z2
          cases hq : pB (ScOk x.sc) with
          | false =>
            have HQ2 := Lib.hid hq
            clear hq
            go_wp2_with fail
            go_ret
            exact ⟨ret_b (pB_no (fun h => by have := pB_yes ((isOk1 K1.out).1 h).2.2.1; rw [HQ2.out] at this; cases this)), B2.out⟩
          | true =>
            have HQ2 := Lib.hid hq
            clear hq
            by_cases h3 : x.kids.length = 0
            · have t3 : ((x.kids.length : Int) == 0) = true := by rw [beq_iff_eq]; omega
              have H3 := Lib.hid h3
              clear h3
              go_wp2_with fail
              go_ret
              exact ⟨ret_b (pB_yes ((isOk1 K1.out).2 ⟨(nmB_iff _).1 HQ.out, H2.out, pB_iff.1 HQ2.out, H3.out⟩)), B2.out⟩
            · have t3 : ((x.kids.length : Int) == 0) = false := by rw [beq_eq_false_iff_ne]; omega
              have H3 := Lib.hid h3
              clear h3
              go_wp2_with fail
              go_ret
              exact ⟨ret_b (pB_no (fun h => H3.out ((isOk1 K1.out).1 h).2.2.2)), B2.out⟩
        · have t2 : (x.num == 0) = false := by simpa using h2
          have H2 := Lib.hid h2
          clear h2
          go_wp2_with fail
          go_ret
          exact ⟨ret_b (pB_no (fun h => H2.out ((isOk1 K1.out).1 h).2.1)), B1.out⟩
    · have e1 : (x.kind == 1) = false := by simpa using k1
      have K1 := Lib.hid k1
      clear k1 HN
      by_cases k2 : x.kind = 2
      · have e2 : (x.kind == 2) = true := by simpa using k2
        have K2 := Lib.hid k2
        clear k2
        have B0 := Lib.hid (below_new w (.cells #[.int .i64 x.kind, .string x.name, .int .i64 x.num, .slice A3 x.sc.length c3, .slice A4 x.kids.length c4] 34))
        go_enter Try.func125, Try.ntmps125
        by_cases h1 : x.name.toList = []
        · have t1 : (x.name.toList == []) = true := by rw [h1]; rfl
          have H1 := Lib.hid h1
          clear h1
          by_cases h2 : 0 ≤ x.num
          · have t2 : decide (x.num ≥ 0) = true := decide_eq_true h2
            have t2' : decide (0 ≤ x.num) = true := decide_eq_true h2
            have H2 := Lib.hid h2
            clear h2
            by_cases h3 : x.num ≤ 999
            · have t3 : decide (x.num ≤ 999) = true := decide_eq_true h3
              have H3 := Lib.hid h3
              clear h3
              by_cases h4 : x.sc.length = 0
              · have t4 : ((x.sc.length : Int) == 0) = true := by rw [beq_iff_eq]; omega
                have H4 := Lib.hid h4
                clear h4
                by_cases h5 : x.kids.length = 0
                · have t5 : ((x.kids.length : Int) == 0) = true := by rw [beq_iff_eq]; omega
                  have H5 := Lib.hid h5
                  clear h5
                  go_wp2_with fail
                  go_ret
                  exact ⟨ret_b (pB_yes ((isOk2 K2.out).2 ⟨H1.out, H2.out, H3.out, H4.out, H5.out⟩)), B0.out⟩
                · have t5 : ((x.kids.length : Int) == 0) = false := by rw [beq_eq_false_iff_ne]; omega
                  have H5 := Lib.hid h5
                  clear h5
                  go_wp2_with fail
                  go_ret
                  exact ⟨ret_b (pB_no (fun h => H5.out ((isOk2 K2.out).1 h).2.2.2.2)), B0.out⟩
              · have t4 : ((x.sc.length : Int) == 0) = false := by rw [beq_eq_false_iff_ne]; omega
                have H4 := Lib.hid h4
                clear h4
                go_wp2_with fail
                go_ret
                exact ⟨ret_b (pB_no (fun h => H4.out ((isOk2 K2.out).1 h).2.2.2.1)), B0.out⟩
            · have t3 : decide (x.num ≤ 999) = false := decide_eq_false h3
              have H3 := Lib.hid h3
              clear h3
              go_wp2_with fail
              go_ret
              exact ⟨ret_b (pB_no (fun h => by have h1 := H3.out; have h2 := ((isOk2 K2.out).1 h).2.2.1; omega)), B0.out⟩
          · have t2 : decide (x.num ≥ 0) = false := decide_eq_false h2
            have t2' : decide (0 ≤ x.num) = false := decide_eq_false h2
            have H2 := Lib.hid h2
            clear h2
            go_wp2_with fail
            go_ret
            exact ⟨ret_b (pB_no (fun h => by have h1 := H2.out; have h2 := ((isOk2 K2.out).1 h).2.1; omega)), B0.out⟩
        · have t1 : (x.name.toList == []) = false := by rw [beq_eq_false_iff_ne]; exact h1
          have H1 := Lib.hid h1
          clear h1
          go_wp2_with fail
          go_ret
          exact ⟨ret_b (pB_no (fun h => H1.out ((isOk2 K2.out).1 h).1)), B0.out⟩
      · have e2 : (x.kind == 2) = false := by simpa using k2
        have K2 := Lib.hid k2
        clear k2
        by_cases k3 : x.kind = 3
        · have e3 : (x.kind != 3) = false := by simpa using k3
          have e3' : (x.kind == 3) = true := by simpa using k3
          have K3 := Lib.hid k3
          clear k3
          have B0 := Lib.hid (below_new w (.cells #[.int .i64 x.kind, .string x.name, .int .i64 x.num, .slice A3 x.sc.length c3, .slice A4 x.kids.length c4] 34))
          obtain ⟨p0, p1, p2, p3, p4⟩ := fm_cells (blk_new w (.cells #[.int .i64 x.kind, .string x.name, .int .i64 x.num, .slice A3 x.sc.length c3, .slice A4 x.kids.length c4] 34))
          clear p0 p1 p2 p3
          go_enter Try.func125, Try.ntmps125
          by_cases h1 : x.name.toList = []
          · have t1 : (x.name.toList != []) = false := by rw [h1]; rfl
            have t1' : (x.name.toList == []) = true := by rw [h1]; rfl
            have H1 := Lib.hid h1
            clear h1
            by_cases h2 : x.num = 0
            · have t2 : (x.num != 0) = false := by simpa using h2
              have H2 := Lib.hid h2
              clear h2
              by_cases h4 : x.sc.length = 0
              · have t4 : ((x.sc.length : Int) != 0) = false := by simp [h4]
                have t4' : ((x.sc.length : Int) == 0) = true := by rw [beq_iff_eq]; omega
                have H4 := Lib.hid h4
                clear h4
                go_wp2_with fail
                go_loopg [5] x.kids.length (fun kq v5 w' => ∃ i : Nat, i ≤ x.kids.length ∧ x.kids.length - i ≤ kq ∧ v5 = .int .i64 i ∧ Aside0 (∀ j (h : j < x.kids.length), j < i → IsOk n x.kids[j]) ∧ Aside0 (Below (w.alloc (.cells #[.int .i64 x.kind, .string x.name, .int .i64 x.num, .slice A3 x.sc.length c3, .slice A4 x.kids.length c4] 34)).heap.size (w.alloc (.cells #[.int .i64 x.kind, .string x.name, .int .i64 x.num, .slice A3 x.sc.length c3, .slice A4 x.kids.length c4] 34)) w'))
                case atStart => exact ⟨0, Nat.zero_le _, by omega, rfl, ⟨fun j _ h => absurd h (by omega)⟩, ⟨Below.refl _ _⟩⟩
                case round =>
                  obtain ⟨i, hi, hg, rfl, HN, HW⟩ := hrel
                  have q4 := ck0 HW.out p4
                  have HW0 := Lib.hid (below_step B0.out HW.out)
                  by_cases hlt : i < x.kids.length
                  · obtain ⟨ad, G3, m3, G4, m4, e, g0, g1, g2, g3, g4, hk⟩ := kid_at (Kd.C_below HI.out.g4 HW0.out) i hlt
                    subst e
                    have HC := Lib.hid (IH.out x.kids[i] G3 m3 G4 m4 (m - 1) wr (by have := HM.out; omega) (by have := HM.out; omega) hk (kid_tot HT.out (List.getElem_mem hlt)))
                    clear hk
                    go_wp2_with fail
                    refine HC.out.mono ?_
                    rintro e w1 ⟨rfl, hb1⟩
                    have HB1 := Lib.hid hb1
                    clear hb1
                    cases he : pB (IsOk n x.kids[i]) with
                    | true =>
                      have HE := Lib.hid he
                      clear he
                      go_wp2_with fail
                      go_roundg (x.kids.length - (i + 1))
                      case measure => omega
                      case rel =>
                        refine ⟨i + 1, by omega, Nat.le_refl _, by go_num, ⟨fun j hj hji => ?_⟩, ⟨below_step HW.out HB1.out⟩⟩
                        rcases Nat.lt_or_ge j i with h | h
                        · exact HN.out j hj h
                        · obtain rfl : j = i := by omega
                          exact pB_iff.1 HE.out
                    | false =>
                      have HE := Lib.hid he
                      clear he
                      go_wp2_with fail
                      go_ret
                      refine ⟨ret_b (pB_no (fun h => ?_)), below_step HW0.out HB1.out⟩
                      have := pB_yes (((isOk3 K1.out K2.out).1 h).2.2.2.2 _ (List.getElem_mem hlt))
                      rw [HE.out] at this
                      cases this
                  · obtain rfl : i = x.kids.length := by omega
                    go_wp2_with fail
                    go_ret
                    refine ⟨ret_b (pB_yes ((isOk3 K1.out K2.out).2 ⟨K3.out, H1.out, H2.out, H4.out, fun k hk => ?_⟩)), HW0.out⟩
                    obtain ⟨j, hj, rfl⟩ := List.getElem_of_mem hk
                    exact HN.out j hj hj
              · have t4 : ((x.sc.length : Int) != 0) = true := by rw [bne_iff_ne]; omega
                have t4' : ((x.sc.length : Int) == 0) = false := by rw [beq_eq_false_iff_ne]; omega
                have H4 := Lib.hid h4
                clear h4
                go_wp2_with fail
                go_ret
                exact ⟨ret_b (pB_no (fun h => by have h1 := H4.out; have h2 := ((isOk3 K1.out K2.out).1 h).2.2.2.1; omega)), B0.out⟩
            · have t2 : (x.num != 0) = true := by simpa using h2
              have H2 := Lib.hid h2
              clear h2
              go_wp2_with fail
              go_ret
              exact ⟨ret_b (pB_no (fun h => H2.out ((isOk3 K1.out K2.out).1 h).2.2.1)), B0.out⟩
          · have t1 : (x.name.toList != []) = true := by rw [bne_iff_ne]; exact h1
            have t1' : (x.name.toList == []) = false := by rw [beq_eq_false_iff_ne]; exact h1
            have H1 := Lib.hid h1
            clear h1
            go_wp2_with fail
            go_ret
            exact ⟨ret_b (pB_no (fun h => H1.out ((isOk3 K1.out K2.out).1 h).2.1)), B0.out⟩
        · have e3 : (x.kind != 3) = true := by simpa using k3
          have e3' : (x.kind == 3) = false := by simpa using k3
          have K3 := Lib.hid k3
          clear k3
          have B0 := Lib.hid (below_new w (.cells #[.int .i64 x.kind, .string x.name, .int .i64 x.num, .slice A3 x.sc.length c3, .slice A4 x.kids.length c4] 34))
          go_enter Try.func125, Try.ntmps125
          go_wp2_with fail
          go_ret
          exact ⟨ret_b (pB_no (fun h => K3.out ((isOk3 K1.out K2.out).1 h).1)), B0.out⟩
def FmOk (x : Fm) : Prop := IsOk 40 x ∧ x.size ≤ 400
theorem specValid_any (x : Fm) (A3 : Option Addr) (c3 : Nat) (A4 : Option Addr) (c4 : Nat) (w : World) (hin : FmIn w x A3 c3 A4 c4) (ht : x.tot ≤ 1048576) :
    Calls Try.prog 55 #[.agg #[.int .i64 x.kind, .string x.name, .int .i64 x.num, .slice A3 x.sc.length c3, .slice A4 x.kids.length c4]] w (Ret w (.bool (pB (FmOk x)))) := by
  have hb := below_new w (.cells #[.int .i64 x.kind, .string x.name, .int .i64 x.num, .slice A3 x.sc.length c3, .slice A4 x.kids.length c4] 34)
  have HI := Lib.hid (l1Is_any 40 x A3 c3 A4 c4 40 _ rfl (by omega) (hin.below hb) ht)
  have hsz : x.size < 4611686018427387904 := by have := sizes_totL x; omega
  have HS := Lib.hid (fun W hb => l1Count_any x A3 c3 A4 c4 W (hin.below hb) hsz)
  clear hb hin
  go_enter Try.func55, Try.ntmps55
  go_wp2_with fail
  refine HI.out.mono ?_
  rintro e w1 ⟨rfl, hb1⟩
  obtain ⟨z1, b1⟩ := one_new hb1
  obtain ⟨p0, p1, p2, p3, p4⟩ := fm_cells z1
  have B1 := Lib.hid b1
  have HS1 := Lib.hid (HS.out _ b1)
  clear hb1 b1 HS
  cases hq : pB (IsOk 40 x) with
  | false =>
    have HQ := Lib.hid hq
    clear hq
    go_wp2_with fail
    go_ret
    exact ⟨ret_b (pB_no (fun h => by have := pB_yes h.1; rw [HQ.out] at this; cases this)), B1.out⟩
  | true =>
    have HQ := Lib.hid hq
    clear hq
    go_wp2_with fail
    refine HS1.out.mono ?_
    rintro e w2 ⟨rfl, hb2⟩
    have B2 := Lib.hid (below_step B1.out hb2)
    clear hb2
    by_cases h4 : x.size ≤ 400
    · have t1 : decide ((x.size : Int) ≤ 400) = true := decide_eq_true (by omega)
      have H4 := Lib.hid h4
      clear h4
      go_wp2_with fail
      go_ret
      exact ⟨ret_b (pB_yes ⟨pB_iff.1 HQ.out, H4.out⟩), B2.out⟩
    · have t1 : decide ((x.size : Int) ≤ 400) = false := decide_eq_false (by omega)
      have H4 := Lib.hid h4
      clear h4
      go_wp2_with fail
      go_ret
      exact ⟨ret_b (pB_no (fun h => by have h1 := H4.out; have h2 := h.2; omega)), B2.out⟩
end Go.Proofs.Ythjnbladlgkmnaa
