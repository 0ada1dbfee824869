/- Contracts of isName and of both SameNames. -/
import Derived.Test.YthjnbladlgkmnaaFormOk
import Derived.Test.YthjnbladlgkmnaaSame
namespace Go.Proofs.Ythjnbladlgkmnaa
open Go.RowKit Go.Proofs.YthjnbladlgkmnaaW.PrintWords Go.Proofs.YthjnbladlgkmnaaW.PrintLast Go.Proofs.YthjnbladlgkmnaaW.PrintMore
set_option linter.unusedVariables false
set_option linter.unusedSimpArgs false
def IsName (x : Fm) : Prop := x.kind = 1 ∧ FmOk x
theorem isName_any (x : Fm) (A3 : Option Addr) (c3 : Nat) (A4 : Option Addr) (c4 : Nat) (w : World) (hin : FmIn w x A3 c3 A4 c4) (ht : x.tot ≤ 1048576) :
    Calls Try.prog 132 #[.agg #[.int .i64 x.kind, .string x.name, .int .i64 x.num, .slice A3 x.sc.length c3, .slice A4 x.kids.length c4]] w (Ret w (.bool (pB (IsName x)))) := by
  have HC := Lib.hid (implValid_any x A3 c3 A4 c4 _ (hin.below (below_new w (.cells #[.int .i64 x.kind, .string x.name, .int .i64 x.num, .slice A3 x.sc.length c3, .slice A4 x.kids.length c4] 34))) ht)
  have HB := Lib.hid (below_new w (.cells #[.int .i64 x.kind, .string x.name, .int .i64 x.num, .slice A3 x.sc.length c3, .slice A4 x.kids.length c4] 34))
  clear hin ht
  by_cases k1 : x.kind = 1
  · have e1 : (x.kind == 1) = true := by simpa using k1
    have K1 := Lib.hid k1
    clear k1
    go_enter Try.func132, Try.ntmps132
    go_wp2_with fail
    refine HC.out.mono ?_
    rintro e w1 ⟨rfl, hb1⟩
    generalize hE : pB (FmOk x) = E
    have HE := Lib.hid hE
    have HB1 := Lib.hid (below_step HB.out hb1)
    clear hE hb1
    go_wp2_with fail
    go_ret
    exact ⟨ret_b (pB_of (by rw [← HE.out, pB_iff]; exact ⟨fun h => ⟨K1.out, h⟩, fun h => h.2⟩)), HB1.out⟩
  · have e1 : (x.kind == 1) = false := by simpa using k1
    have K1 := Lib.hid k1
    clear k1 HC
    go_enter Try.func132, Try.ntmps132
    go_wp2_with fail
    go_ret
    exact ⟨ret_b (pB_no (fun h => K1.out h.1)), HB.out⟩
def SmName (x y : Fm) : Prop := FmOk x ∧ FmOk y ∧ x.kind = 1 ∧ x = y
set_option maxHeartbeats 2000000 in
theorem specSameName_any (x y : Fm) (A3 : Option Addr) (c3 : Nat) (A4 : Option Addr) (c4 : Nat) (B3 : Option Addr) (d3 : Nat) (B4 : Option Addr) (d4 : Nat) (w : World) (hx : FmIn w x A3 c3 A4 c4) (hy : FmIn w y B3 d3 B4 d4) (tx : x.tot ≤ 1048576) (ty : y.tot ≤ 1048576) :
    Calls Try.prog 62 #[.agg #[.int .i64 x.kind, .string x.name, .int .i64 x.num, .slice A3 x.sc.length c3, .slice A4 x.kids.length c4], .agg #[.int .i64 y.kind, .string y.name, .int .i64 y.num, .slice B3 y.sc.length d3, .slice B4 y.kids.length d4]] w (Ret w (.bool (pB (SmName x y)))) := by
  have HC := Lib.hid (fun W hb => specValid_any x A3 c3 A4 c4 W (hx.below hb) tx)
  have HD := Lib.hid (fun W hb => specValid_any y B3 d3 B4 d4 W (hy.below hb) ty)
  have HS := Lib.hid (fun W hb => specSame_any x y A3 c3 A4 c4 B3 d3 B4 d4 W (hx.below hb) (hy.below hb))
  clear hx hy tx ty
  go_enter Try.func62, Try.ntmps62
  go_wp2_with fail
  refine (HC.out _ (below_step (below_new w _) (below_new _ _))).mono ?_
  rintro e w1 ⟨rfl, hb1⟩
  obtain ⟨k1, l1, b1⟩ := two_new hb1
  clear hb1
  obtain ⟨p0, p1, p2, p3, p4⟩ := fm_cells k1
  obtain ⟨q0, q1, q2, q3, q4⟩ := fm_cells l1
  cases hE : pB (FmOk x) with
  | false =>
    have HE := Lib.hid hE
    have B1 := Lib.hid b1
    clear hE b1 k1 l1
    go_wp2_with fail
    go_ret
    exact ⟨ret_b (pB_no (fun h => by have := pB_yes h.1; rw [HE.out] at this; cases this)), B1.out⟩
  | true =>
    have HE := Lib.hid hE
    clear hE
    go_wp2_with fail
    refine (HD.out _ b1).mono ?_
    rintro e w2 ⟨rfl, hb2⟩
    have k2 := blk_below k1 hb2
    have l2 := blk_below l1 hb2
    have b2 := below_step b1 hb2
    clear hb2 k1 l1 b1 p0 p1 p2 p3 p4 q0 q1 q2 q3 q4
    obtain ⟨p0, p1, p2, p3, p4⟩ := fm_cells k2
    obtain ⟨q0, q1, q2, q3, q4⟩ := fm_cells l2
    cases hF : pB (FmOk y) with
    | false =>
      have HF := Lib.hid hF
      have B2 := Lib.hid b2
      clear hF b2 k2 l2
      go_wp2_with fail
      go_ret
      exact ⟨ret_b (pB_no (fun h => by have := pB_yes h.2.1; rw [HF.out] at this; cases this)), B2.out⟩
    | true =>
      have HF := Lib.hid hF
      clear hF
      have B2 := Lib.hid b2
      by_cases hk : x.kind = 1
      · have e1 : (x.kind == 1) = true := by simpa using hk
        have K1 := Lib.hid hk
        clear hk b2 k2 l2
        go_wp2_with fail
        refine (HS.out _ B2.out).mono ?_
        rintro e w3 ⟨rfl, hb3⟩
        have B3 := Lib.hid (below_step B2.out hb3)
        generalize hG : eqB x y = G
        have HG := Lib.hid hG
        clear hb3 hG
        go_wp2_with fail
        go_ret
        exact ⟨ret_b (pB_of (by rw [← HG.out, eqB_iff]; exact ⟨fun h => ⟨pB_iff.1 HE.out, pB_iff.1 HF.out, K1.out, h⟩, fun h => h.2.2.2⟩)), B3.out⟩
      · have e1 : (x.kind == 1) = false := by simpa using hk
        have K1 := Lib.hid hk
        clear hk b2 k2 l2
        go_wp2_with fail
        go_ret
        exact ⟨ret_b (pB_no (fun h => K1.out h.2.2.1)), B2.out⟩
set_option maxHeartbeats 2000000 in
theorem implSameName_any (x y : Fm) (A3 : Option Addr) (c3 : Nat) (A4 : Option Addr) (c4 : Nat) (B3 : Option Addr) (d3 : Nat) (B4 : Option Addr) (d4 : Nat) (w : World) (hx : FmIn w x A3 c3 A4 c4) (hy : FmIn w y B3 d3 B4 d4) (tx : x.tot ≤ 1048576) (ty : y.tot ≤ 1048576) :
    Calls Try.prog 63 #[.agg #[.int .i64 x.kind, .string x.name, .int .i64 x.num, .slice A3 x.sc.length c3, .slice A4 x.kids.length c4], .agg #[.int .i64 y.kind, .string y.name, .int .i64 y.num, .slice B3 y.sc.length d3, .slice B4 y.kids.length d4]] w (Ret w (.bool (pB (SmName x y)))) := by
  have HC := Lib.hid (fun W hb => isName_any x A3 c3 A4 c4 W (hx.below hb) tx)
  have HD := Lib.hid (fun W hb => isName_any y B3 d3 B4 d4 W (hy.below hb) ty)
  have HS := Lib.hid (fun W hb => implSame_any x y A3 c3 A4 c4 B3 d3 B4 d4 W (hx.below hb) (hy.below hb))
  clear hx hy tx ty
  go_enter Try.func63, Try.ntmps63
  go_wp2_with fail
  refine (HC.out _ (below_step (below_new w _) (below_new _ _))).mono ?_
  rintro e w1 ⟨rfl, hb1⟩
  obtain ⟨k1, l1, b1⟩ := two_new hb1
  clear hb1
  obtain ⟨p0, p1, p2, p3, p4⟩ := fm_cells k1
  obtain ⟨q0, q1, q2, q3, q4⟩ := fm_cells l1
  cases hE : pB (IsName x) with
  | false =>
    have HE := Lib.hid hE
    have B1 := Lib.hid b1
    clear hE b1 k1 l1
    go_wp2_with fail
    go_ret
    exact ⟨ret_b (pB_no (fun h => by have := pB_yes (show IsName x from ⟨h.2.2.1, h.1⟩); rw [HE.out] at this; cases this)), B1.out⟩
  | true =>
    have HE := Lib.hid hE
    clear hE
    go_wp2_with fail
    refine (HD.out _ b1).mono ?_
    rintro e w2 ⟨rfl, hb2⟩
    have k2 := blk_below k1 hb2
    have l2 := blk_below l1 hb2
    have b2 := below_step b1 hb2
    clear hb2 k1 l1 b1 p0 p1 p2 p3 p4 q0 q1 q2 q3 q4
    obtain ⟨p0, p1, p2, p3, p4⟩ := fm_cells k2
    obtain ⟨q0, q1, q2, q3, q4⟩ := fm_cells l2
    cases hF : pB (IsName y) with
    | false =>
      have HF := Lib.hid hF
      have B2 := Lib.hid b2
      clear hF b2 k2 l2
      go_wp2_with fail
      go_ret
      exact ⟨ret_b (pB_no (fun h => by have := pB_yes (show IsName y from ⟨h.2.2.2 ▸ h.2.2.1, h.2.1⟩); rw [HF.out] at this; cases this)), B2.out⟩
    | true =>
      have HF := Lib.hid hF
      clear hF
      have B2 := Lib.hid b2
      clear b2 k2 l2
      go_wp2_with fail
      refine (HS.out _ B2.out).mono ?_
      rintro e w3 ⟨rfl, hb3⟩
      have B3 := Lib.hid (below_step B2.out hb3)
      generalize hG : eqB x y = G
      have HG := Lib.hid hG
      clear hb3 hG
      go_wp2_with fail
      go_ret
      exact ⟨ret_b (pB_of (by rw [← HG.out, eqB_iff]; exact ⟨fun h => ⟨(pB_iff.1 HE.out).2, (pB_iff.1 HF.out).2, (pB_iff.1 HE.out).1, h⟩, fun h => h.2.2.2⟩)), B3.out⟩
end Go.Proofs.Ythjnbladlgkmnaa
