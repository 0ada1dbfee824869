/- Words for the laws' proofs (part 5): contracts of functions, and plain lemmas. -/
import Derived.Test.YteonncnhhccgeaaPl4
section
namespace Go.Proofs.Yteonncnhhccgeaa
open Go.RowKit Go.Proofs.YteonncnhhccgeaaW.PrintWords Go.Proofs.YteonncnhhccgeaaW.PrintLast Go.Proofs.YteonncnhhccgeaaW.PrintMore
set_option linter.unusedVariables false
set_option linter.unusedSimpArgs false
/-- A set with all numbers of a list. -/
abbrev addL (ns : List Int) (l : List Int) : List Int := ns.foldl putS l
theorem addL_srt : ∀ (ns : List Int) {l : List Int}, Srt l → Srt (addL ns l)
  | [], _, h => h
  | x :: xs, _, h => addL_srt xs (srt_putS h x)
theorem addL_len : ∀ (ns l : List Int), (addL ns l).length ≤ l.length + ns.length
  | [], l => by simp
  | x :: xs, l => by
    have h1 := addL_len xs (putS l x)
    have h2 := len_putS_le l x
    show (addL xs (putS l x)).length ≤ _
    simp only [List.length_cons]
    omega
theorem addL_next (ns : List Int) (i : Nat) (h : i < ns.length) (l : List Int) : addL (ns.take (i + 1)) l = putS (addL (ns.take i) l) ns[i] := by
  show (ns.take (i + 1)).foldl putS l = _
  rw [List.take_succ_eq_append_getElem h, List.foldl_append]; rfl
noncomputable def dressR (nm x : Fm) : Fm × Bool := if pB (FmOk x ∧ IsName nm) then orN (x.chS (addL nm.f3)) else (zFm, false)
theorem dressR_in {nm x : Fm} (h : FmOk x) (h2 : IsName nm) : dressR nm x = orN (x.chS (addL nm.f3)) := by unfold dressR; rw [if_pos (pB_iff.2 ⟨h, h2⟩)]
theorem dressR_out {nm x : Fm} (h : ¬ (FmOk x ∧ IsName nm)) : dressR nm x = (zFm, false) := by unfold dressR; rw [if_neg (fun k => h (pB_iff.1 k))]
theorem isName_sc {nm : Fm} (h : IsName nm) : ScOk nm.f3 := (fmOk_sc h.2).at h.1
theorem dress_tot {x nm : Fm} (hx : FmOk x) (hn : IsName nm) (i : Nat) : (x.chS (addL (nm.f3.take i))).tot ≤ 30000 := by
  have h0 := (isName_sc hn).1
  have h1 := tot_chS hx.1 (addL (nm.f3.take i)) 50 ((fmOk_sc hx).imp (fun y hy => by have := addL_len (nm.f3.take i) y.f3; have := hy.1; have h9 : (nm.f3.take i).length ≤ nm.f3.length := (by rw [List.length_take]; exact Nat.min_le_right _ _); omega))
  have h2 : (13 + 50) * x.size ≤ 63 * 400 := Nat.mul_le_mul (by omega) hx.2
  omega
set_option maxHeartbeats 1000000 in
/-- DressLike's closure as_ a function value: the name lies in block g of w0. -/
noncomputable def fvDress (nm : Fm) (B3 : Option Addr) (Bc3 : Nat) (B4 : Option Addr) (Bc4 : Nat) (g : Nat) (w0 : World) (hg : w0.heap[g]? = some (.cells #[.int .i64 nm.f0, .string nm.f1, .int .i64 nm.f2, .slice B3 nm.f3.length Bc3, .slice B4 nm.f4.length Bc4] 31 (0, 0))) (hin : FmIn w0 nm B3 Bc3 B4 Bc4) : Fv where
  g := 118
  lb := #[.pointer (some ⟨g, 0, none⟩)]
  w0 := w0
  f := fun l => gIf (Srt l ∧ l.length + nm.f3.length ≤ 1000000) (addL nm.f3 l)
  eg := enters_of Try.func118 (by kernel_rfl) rfl
  ok := by
    intro P1 u l r wb w hB hR h0 hf
    obtain ⟨p0, p1, p2, p3, p4⟩ := fm_cells (blk_below (blk_below hg h0) hB)
    obtain ⟨⟨hs, hl⟩, rfl⟩ := gIf_some hf
    have HS := Lib.hid hs
    have HC := Lib.hid (Kd.C_below hin.g3 h0)
    have HF := Lib.hid (And.intro (Kd.R_mono hR (fun b h => (.inl h : P1 b ∨ w.heap.size ≤ b))) hB)
    have hmx : nm.f3.length ≤ 1000000 := by omega
    obtain ⟨A, c, rfl⟩ := Kd.R_slice hR
    clear hR hB h0 hf hg hin hs
    show Calls Try.prog 118 #[.slice A l.length c, .pointer (some ⟨g, 0, none⟩)] w _
    go_enter Try.func118, Try.ntmps118
    go_wp2_with fail
    clear p0 p1 p2 p3 p4
    go_loopg [0, 5, 9] nm.f3.length (fun kq v0 v5 v9 w' => ∃ (i : Nat) (D : Option Addr) (d : Nat), i ≤ nm.f3.length ∧ nm.f3.length - i ≤ kq ∧ v9 = .int .i64 i ∧ v0 = .slice D (addL (nm.f3.take i) l).length d ∧ Aside0 (kI.R 3 w' wb.heap.size (fun b => P1 b ∨ w.heap.size ≤ b) (.slice D (addL (nm.f3.take i) l).length d) (addL (nm.f3.take i) l)) ∧ Aside0 (Below wb.heap.size wb w' ∧ Kept w w' (fun k => P1 k)))
    case atStart => exact ⟨0, A, c, Nat.zero_le _, by omega, rfl, rfl, ⟨HF.out.1⟩, ⟨HF.out.2, ⟨Nat.le_refl _, fun _ _ _ => rfl⟩⟩⟩
    case round =>
      obtain ⟨i, D, d, hi, hg, rfl, rfl, HR, HW⟩ := hrel
      by_cases hlt : i < nm.f3.length
      · obtain ⟨ad, e, g0⟩ := int_at (Kd.C_below HC.out HW.out.1) i hlt
        subst e
        have h1 := addL_len (nm.f3.take i) l
        have h2 : (nm.f3.take i).length ≤ nm.f3.length := by rw [List.length_take]; exact Nat.min_le_right _ _
        have HP := Lib.hid (withScope_any (addL (nm.f3.take i) l) nm.f3[i] _ wb.heap.size _ wr HR.out HW.out.1.size (addL_srt (nm.f3.take i) HS.out) (by omega))
        have HT := Lib.hid (addL_next nm.f3 i hlt l)
        clear h1 h2
        go_wp2_with fail
        clear g0
        refine HP.out.mono ?_
        rintro e w1 ⟨v', rfl, hR1, hM⟩
        rw [← HT.out] at hR1
        obtain ⟨E, e, rfl⟩ := Kd.R_slice hR1
        have hbs := Kd.R_base HR.out
        have HN := Lib.hid (show kI.R 3 w1 wb.heap.size (fun b => P1 b ∨ w.heap.size ≤ b) (.slice E (addL (nm.f3.take (i + 1)) l).length e) (addL (nm.f3.take (i + 1)) l) ∧ Below wb.heap.size wb w1 ∧ Kept w w1 (fun k => P1 k) from by
          refine ⟨Kd.R_mono hR1 (fun b hb => hb.elim id (fun h => .inr (Nat.le_trans HW.out.2.1 h))), HW.out.1.trans (hM.below HW.out.1.size (fun b hb => hbs b (obs_mem.1 hb))), ⟨Nat.le_trans HW.out.2.1 hM.b0.size, fun b hb hn => ?_⟩⟩
          rw [hM.keep b (Nat.lt_of_lt_of_le hb HW.out.2.1) (fun hm => by
            rcases HR.out.1 b (obs_mem.1 hm) with h | h
            · exact hn h
            · omega)]
          exact HW.out.2.2 b hb hn)
        clear hR1 hM hbs
        go_wp2_with fail
        go_roundg (nm.f3.length - (i + 1))
        case measure => omega
        case rel => exact ⟨i + 1, E, e, by omega, Nat.le_refl _, by go_num, rfl, ⟨HN.out.1⟩, ⟨HN.out.2⟩⟩
      · obtain rfl : i = nm.f3.length := by omega
        rw [List.take_length] at HR ⊢
        go_wp2_with fail
        go_ret
        exact ⟨_, rfl, HR.out, HW.out.1, HW.out.2⟩
theorem implDress_new (x nm : Fm) (A3 : Option Addr) (Ac3 : Nat) (A4 : Option Addr) (Ac4 : Nat) (B3 : Option Addr) (Bc3 : Nat) (B4 : Option Addr) (Bc4 : Nat) (w : World) (hx : FmIn w x A3 Ac3 A4 Ac4) (hn : FmIn w nm B3 Bc3 B4 Bc4) (tx : x.tot ≤ 1048576) (tn : nm.tot ≤ 1048576) :
    Calls Try.prog 52 #[.agg #[.int .i64 x.f0, .string x.f1, .int .i64 x.f2, .slice A3 x.f3.length Ac3, .slice A4 x.f4.length Ac4], .agg #[.int .i64 nm.f0, .string nm.f1, .int .i64 nm.f2, .slice B3 nm.f3.length Bc3, .slice B4 nm.f4.length Bc4]] w (RetT tellsNew w (dressR nm x)) := by
  have HX := Lib.hid hx
  have HN := Lib.hid hn
  have HT := Lib.hid (And.intro tx tn)
  clear hx hn tx tn
  go_enter Try.func52, Try.ntmps52
  go_wp2_with fail
  refine (implValid_any x A3 Ac3 A4 Ac4 _ (HX.out.below (below_step (below_step (below_new _ _) (below_new _ _)) (below_new _ _))) HT.out.1).mono ?_
  rintro e w1 ⟨rfl, hb⟩
  obtain ⟨k0, k1, k2, b1⟩ := three_new hb
  have K0 := Lib.hid k0
  have K1 := Lib.hid k1
  have K2 := Lib.hid k2
  have B1 := Lib.hid b1
  clear hb k0 k1 k2 b1
  by_cases hv : FmOk x
  · rw [← pB_yes hv]
    have HV := Lib.hid hv
    clear hv
    obtain ⟨p0, p1, p2, p3, p4⟩ := fm_cells K1.out
    go_wp2_with fail
    clear p0 p1 p2 p3 p4
    refine (isName_any nm B3 Bc3 B4 Bc4 w1 (HN.out.below B1.out) HT.out.2).mono ?_
    rintro e w2 ⟨rfl, hb2⟩
    replace K0 := Lib.hid (blk_below K0.out hb2)
    replace K1 := Lib.hid (blk_below K1.out hb2)
    replace K2 := Lib.hid (blk_below K2.out hb2)
    have B2 := Lib.hid (below_step B1.out hb2)
    clear hb2
    by_cases hnm : IsName nm
    · rw [← pB_yes hnm]
      have HM := Lib.hid hnm
      clear hnm
      have hs := fmOk_sc HV.out
      have h24 := (isName_sc HM.out).1
      have HD := Lib.hid (show Calls Try.prog 117 #[.agg #[.int .i64 x.f0, .string x.f1, .int .i64 x.f2, .slice A3 x.f3.length Ac3, .slice A4 x.f4.length Ac4], .func (.func 118) #[] #[.pointer (some ⟨w.heap.size + 1, 0, none⟩)]] w2 (RetF w2 (x.chS (addL nm.f3))) from
        dressed_any (fvDress nm B3 Bc3 B4 Bc4 (w.heap.size + 1) w2 K1.out (HN.out.below B2.out)) (addL nm.f3) x (hs.imp (fun y hy => gIf_yes ⟨(scOk_iff.1 hy).2.1, by have := hy.1; omega⟩ _)) A3 Ac3 A4 Ac4 w2 (HX.out.below B2.out) (by have := HT.out; omega) (Below.refl _ _))
      obtain ⟨p0, p1, p2, p3, p4⟩ := fm_cells K0.out
      clear hs h24
      go_wp2_with fail
      clear p0 p1 p2 p3 p4
      refine HD.out.mono ?_
      intro e w3 hr
      obtain ⟨v3, v4, rfl, hT, hb3⟩ := hr.T
      obtain ⟨D3, e3, D4, e4, rfl, rfl⟩ := tellsNew.form hT
      have h1 := dress_tot HV.out HM.out nm.f3.length
      rw [List.take_length] at h1
      have hin3 : FmIn w3 (x.chS (addL nm.f3)) D3 e3 D4 e4 := by
        obtain ⟨fp, htr, _, _⟩ := hT
        obtain ⟨G3, m3, G4, m4, q1, q2, hin⟩ := htr.In
        injection q1 with a1 _ a2
        injection q2 with a3 _ a4
        subst a1 a2 a3 a4
        exact hin
      have K23 := Lib.hid (blk_below K2.out hb3)
      have B3 := Lib.hid (below_step B2.out hb3)
      have HF := Lib.hid (formOr_any (x.chS (addL nm.f3)) D3 e3 D4 e4 w3 hin3 (by omega))
      have HL := Lib.hid (blk_lt K2.out)
      have HLW := Lib.hid (show w2.heap.size ≤ w3.heap.size from hb3.size)
      clear h1 hin3 hT hb3 hr
      go_wp2_with fail
      refine HF.out.mono ?_
      rintro e w4 ⟨v3, v4, rfl, hT, hb4⟩
      obtain ⟨E3, k3, E4, k4, rfl, rfl⟩ := tellsNew.form hT
      obtain ⟨q0, q1, q2, q3, q4⟩ := fm_cells (blk_below K23.out hb4)
      obtain ⟨f0, f1, f2, f3, f4⟩ := fm_free (blk_below K23.out hb4)
      have HTN := Lib.hid hT
      have HB := Lib.hid (below_step B3.out hb4)
      clear hT hb4
      go_wp2_with fail
      refine bodyPost_ret (v := .tuple #[.agg #[.int .i64 (orN (x.chS (addL nm.f3))).1.f0, .string (orN (x.chS (addL nm.f3))).1.f1, .int .i64 (orN (x.chS (addL nm.f3))).1.f2, .slice E3 (orN (x.chS (addL nm.f3))).1.f3.length k3, .slice E4 (orN (x.chS (addL nm.f3))).1.f4.length k4], .bool (orN (x.chS (addL nm.f3))).2]) (by simp [results, Try.results52, go_sem, q0, q1, q2, q3, q4, f0, f1, f2, f3, f4]) rfl ?_
      rw [dressR_in HV.out HM.out]
      refine ⟨_, _, rfl, tellsNew.low B3.out.size (tellsNew.move HTN.out (fun b hb => ?_)), ?_⟩
      · have := HL.out
        have := HLW.out
        repeat rw [Below.heap_setCell _ _ _ b (by show b ≠ w.heap.size + 1 + 1; omega)]
      · repeat (refine below_set ?_ (by omega))
        exact HB.out
    · rw [← pB_no hnm]
      have HM := Lib.hid hnm
      clear hnm
      obtain ⟨q0, q1, q2, q3, q4⟩ := fm_cells K2.out
      obtain ⟨f0, f1, f2, f3, f4⟩ := fm_free K2.out
      have HB9 := Lib.hid B2.out
      go_wp2_with fail
      refine bodyPost_ret (v := .tuple #[.agg #[.int .i64 0, .string ⟨#[]⟩, .int .i64 0, .slice none 0 0, .slice none 0 0], .bool false]) (by simp [results, Try.results52, go_sem, q0, q1, q2, q3, q4, f0, f1, f2, f3, f4]) rfl ?_
      rw [dressR_out (fun h => HM.out h.2)]
      refine ⟨_, _, rfl, ⟨[], trz _, by simp, by simp⟩, ?_⟩
      repeat (refine below_set ?_ (by omega))
      exact HB9.out
  · rw [← pB_no hv]
    have HV := Lib.hid hv
    clear hv
    obtain ⟨q0, q1, q2, q3, q4⟩ := fm_cells K2.out
    obtain ⟨f0, f1, f2, f3, f4⟩ := fm_free K2.out
    have HB9 := Lib.hid B1.out
    go_wp2_with fail
    refine bodyPost_ret (v := .tuple #[.agg #[.int .i64 0, .string ⟨#[]⟩, .int .i64 0, .slice none 0 0, .slice none 0 0], .bool false]) (by simp [results, Try.results52, go_sem, q0, q1, q2, q3, q4, f0, f1, f2, f3, f4]) rfl ?_
    rw [dressR_out (fun h => HV.out h.1)]
    refine ⟨_, _, rfl, ⟨[], trz _, by simp, by simp⟩, ?_⟩
    repeat (refine below_set ?_ (by omega))
    exact HB9.out
theorem srtF_add {ns : List Int} (hns : ns.length ≤ 50000) : ∀ x : Fm, (∃ m, IsOk m x) → SrtF (x.chS (addL ns)) := by
  intro x
  induction x using Fm.ind with
  | h x ih =>
    intro h
    rw [Fm.chS_eq]
    refine .mk _ (fun h1 => ?_) (fun h1 => if_neg h1) (fun k hk => ?_)
    · have h0 : x.f0 = 1 := h1
      have hs := scOk_iff.1 ((isOk_sc h.choose_spec).at h0).1
      show Srt (if x.f0 = 1 then addL ns x.f3 else []) ∧ (if x.f0 = 1 then addL ns x.f3 else []).length ≤ 100000
      rw [if_pos h0]
      have := addL_len ns x.f3
      exact ⟨addL_srt ns hs.2.1, by have := hs.1; omega⟩
    · obtain ⟨q, hq, rfl⟩ := List.mem_map.1 hk
      exact ih q hq (isOk_kids h q hq)
theorem add_zero {x : Fm} (h : FmOk x) : x.chS (addL []) = x := isOk_chS_id h.1
theorem add_step (x : Fm) {ns : List Int} {i : Nat} (h : i < ns.length) : (x.chS (addL (ns.take i))).chS (wayS ns[i] 0) = x.chS (addL (ns.take (i + 1))) := by
  rw [chS_chS]
  congr 1
  funext l
  rw [addL_next ns i h]
  simp [wayS]
/-- A form reads, and goes on to where the blocks of P stand as_ they stood. -/
structure FmP (P : Nat → Prop) (w : World) (x : Fm) (A3 : Option Addr) (c3 : Nat) (A4 : Option Addr) (c4 : Nat) : Prop where mk ::
  out : ∀ W : World, (∀ b, P b → b < w.heap.size → W.heap[b]? = w.heap[b]?) → FmIn W x A3 c3 A4 c4
theorem FmP.now {P : Nat → Prop} {w : World} {x : Fm} {A3 : Option Addr} {c3 : Nat} {A4 : Option Addr} {c4 : Nat} (h : FmP P w x A3 c3 A4 c4) : FmIn w x A3 c3 A4 c4 := h.out w (fun _ _ _ => rfl)
theorem FmP.move {P : Nat → Prop} {w W : World} {x : Fm} {A3 : Option Addr} {c3 : Nat} {A4 : Option Addr} {c4 : Nat} (h : FmP P w x A3 c3 A4 c4) (hs : w.heap.size ≤ W.heap.size) (hm : ∀ b, P b → b < w.heap.size → W.heap[b]? = w.heap[b]?) : FmP P W x A3 c3 A4 c4 :=
  ⟨fun W' h' => h.out W' (fun b h1 h2 => (h' b h1 (Nat.lt_of_lt_of_le h2 hs)).trans (hm b h1 h2))⟩
theorem FmP.later {P : Nat → Prop} {w W : World} {x : Fm} {A3 : Option Addr} {c3 : Nat} {A4 : Option Addr} {c4 : Nat} (h : FmP P w x A3 c3 A4 c4) (hb : Below w.heap.size w W) : FmP P W x A3 c3 A4 c4 := h.move hb.size (fun b _ hlt => hb.block b hlt)
theorem FmP.ofS {P : Nat → Prop} {lo : Nat} {w : World} {x : Fm} {A3 : Option Addr} {c3 : Nat} {A4 : Option Addr} {c4 : Nat} (h : FmS lo w x A3 c3 A4 c4) (hp : ∀ b, lo ≤ b → b < w.heap.size → P b) : FmP P w x A3 c3 A4 c4 :=
  ⟨fun W hW => h.out W (fun b h1 h2 => hW b (hp b h1 h2) h2)⟩
set_option maxHeartbeats 4000000 in
set_option maxRecDepth 100000 in
theorem specDress_any (x nm : Fm) (A3 : Option Addr) (Ac3 : Nat) (A4 : Option Addr) (Ac4 : Nat) (B3 : Option Addr) (Bc3 : Nat) (B4 : Option Addr) (Bc4 : Nat) (w : World) (hx : FmIn w x A3 Ac3 A4 Ac4) (hn : FmIn w nm B3 Bc3 B4 Bc4) (tx : x.tot ≤ 1048576) (tn : nm.tot ≤ 1048576) :
    Calls Try.prog 53 #[.agg #[.int .i64 x.f0, .string x.f1, .int .i64 x.f2, .slice A3 x.f3.length Ac3, .slice A4 x.f4.length Ac4], .agg #[.int .i64 nm.f0, .string nm.f1, .int .i64 nm.f2, .slice B3 nm.f3.length Bc3, .slice B4 nm.f4.length Bc4]] w (GetFV w (dressR nm x).1 (.bool (dressR nm x).2)) := by
  have HX := Lib.hid hx
  have HN := Lib.hid hn
  have HT := Lib.hid (And.intro tx tn)
  clear hx hn tx tn
  go_enter Try.func53, Try.ntmps53
  go_wp2_with fail
  refine (specValid_any x A3 Ac3 A4 Ac4 _ (HX.out.below (below_step (below_step (below_new _ _) (below_new _ _)) (below_new _ _))) (by have := HT.out; omega)).mono ?_
  rintro e w1 ⟨rfl, hb⟩
  obtain ⟨k0, k1, k2, b1⟩ := three_new hb
  have K0 := Lib.hid k0
  have K1 := Lib.hid k1
  have K2 := Lib.hid k2
  have B1 := Lib.hid b1
  clear hb k0 k1 k2 b1
  by_cases hv : FmOk x
  · rw [← pB_yes hv]
    have HV := Lib.hid hv
    clear hv
    obtain ⟨p0, p1, p2, p3, p4⟩ := fm_cells K1.out
    go_wp2_with fail
    clear p0 p1 p2 p3 p4
    refine (specValid_any nm B3 Bc3 B4 Bc4 w1 (HN.out.below B1.out) (by have := HT.out; omega)).mono ?_
    rintro e w2 ⟨rfl, hb2⟩
    replace K0 := Lib.hid (blk_below K0.out hb2)
    replace K1 := Lib.hid (blk_below K1.out hb2)
    replace K2 := Lib.hid (blk_below K2.out hb2)
    have B2 := Lib.hid (below_step B1.out hb2)
    clear hb2
    by_cases hnv : FmOk nm
    · rw [← pB_yes hnv]
      by_cases hk : nm.f0 = 1
      · have t1 : (nm.f0 == 1) = true := beq_iff_eq.mpr hk
        have t2 : (nm.f0 != 1) = false := by simpa using hk
        have HM := Lib.hid (show IsName nm from ⟨hk, hnv⟩)
        clear hk hnv
        obtain ⟨p0, p1, p2, p3, p4⟩ := fm_cells K1.out
        obtain ⟨s0, s1, s2, s3, s4⟩ := fm_cells K0.out
        go_wp2_with fail
        clear p0 p1 p2 p3 p4 s0 s1 s2 s3 s4
        refine (l1Copy_any x A3 Ac3 A4 Ac4 w2 (HX.out.below B2.out) (by have := HT.out; omega)).mono ?_
        rintro e w3 ⟨v3, v4, rfl, hnw, hb3⟩
        obtain ⟨Y_3, Y_c3, Y_4, Y_c4, rfl, rfl, hs3⟩ := hnw.toS
        have HS3 := Lib.hid hs3
        replace K1 := Lib.hid (blk_below K1.out hb3)
        have HL2 := Lib.hid (blk_lt K2.out)
        replace K2 := Lib.hid (blk_below K2.out hb3)
        have HLW := Lib.hid hb3.size
        have BW := Lib.hid (below_step B2.out hb3)
        have HN3 := Lib.hid (HN.out.below BW.out)
        have h24 := (isName_sc HM.out).1
        clear hnw hs3 hb3 t1 t2
        go_wp2_with fail
        go_loopg [7] nm.f3.length (fun kq v7 w' => ∃ (i : Nat) (Y_3 : Option Addr) (Y_c3 : Nat) (Y_4 : Option Addr) (Y_c4 : Nat), i ≤ nm.f3.length ∧ nm.f3.length - i ≤ kq ∧ v7 = .int .i64 i ∧ Aside0 (w'.heap[w3.heap.size]? = some (.cells #[.int .i64 (x.chS (addL (nm.f3.take i))).f0, .string (x.chS (addL (nm.f3.take i))).f1, .int .i64 (x.chS (addL (nm.f3.take i))).f2, .slice Y_3 (x.chS (addL (nm.f3.take i))).f3.length Y_c3, .slice Y_4 (x.chS (addL (nm.f3.take i))).f4.length Y_c4] 31 (0, 0))) ∧ Aside0 (FmP (fun b => w.heap.size + 3 ≤ b ∧ b ≠ w3.heap.size) w' (x.chS (addL (nm.f3.take i))) Y_3 Y_c3 Y_4 Y_c4) ∧ Aside0 (Below w3.heap.size w3 w'))
        case atStart => exact ⟨0, Y_3, Y_c3, Y_4, Y_c4, Nat.zero_le _, by omega, rfl, ⟨by rw [List.take_zero, add_zero HV.out]; exact blk_new _ _⟩, ⟨by rw [List.take_zero, add_zero HV.out]; exact (FmP.ofS HS3.out (fun b h1 h2 => ⟨by have := HL2.out; omega, by omega⟩)).later (below_new _ _)⟩, ⟨below_new _ _⟩⟩
        case round =>
          obtain ⟨i, Y_3, Y_c3, Y_4, Y_c4, hi, hg, rfl, HY, HK, HW⟩ := hrel
          by_cases hlt : i < nm.f3.length
          · have HADD := Lib.hid (add_step x hlt)
            have HSF := Lib.hid (srtF_add (ns := nm.f3.take i) (by rw [List.length_take]; omega) x ⟨40, HV.out.1⟩)
            have HTO := Lib.hid (dress_tot HV.out HM.out i)
            generalize x.chS (addL (nm.f3.take i)) = y at HY HK HADD HSF HTO
            obtain ⟨ad, e, g0⟩ := int_at (Kd.C_below HN3.out.g3 HW.out) i hlt
            subst e
            have HG := Lib.hid g0
            have HK1 := Lib.hid (blk_below K1.out HW.out)
            have HGY := Lib.hid (show w3.heap.size < wr.heap.size from blk_lt HY.out)
            obtain ⟨p0, p1, p2, p3, p4⟩ := fm_cells HK1.out
            go_wp2_with fail
            clear g0 p0 p1 p2 p3 p4
            have b := below_drew (Below.refl wr.heap.size wr)
            have HB := Lib.hid b
            clear b
            refine start_ (n := 8) (S := (fun W : World => W.cell? ⟨w3.heap.size, 0, none⟩ = some (.int .i64 y.f0) ∧ W.cell? ⟨w3.heap.size, 1, none⟩ = some (.string y.f1) ∧ W.cell? ⟨w3.heap.size, 2, none⟩ = some (.int .i64 y.f2) ∧ W.cell? ⟨w3.heap.size, 3, none⟩ = some (.slice Y_3 y.f3.length Y_c3) ∧ W.cell? ⟨w3.heap.size, 4, none⟩ = some (.slice Y_4 y.f4.length Y_c4) ∧ W.cell? ⟨w.heap.size + 1, 3, none⟩ = some (.slice (some ad) nm.f3.length Bc3) ∧ W.cell? (ad.add i) = some (.int .i64 nm.f3[i]))) (ds := [7]) #[false, false, false, false, false, false, false, false] (by kernel_rfl) rfl rfl ⟨(fm_cells (blk_below HY.out HB.out)).1, (fm_cells (blk_below HY.out HB.out)).2.1, (fm_cells (blk_below HY.out HB.out)).2.2.1, (fm_cells (blk_below HY.out HB.out)).2.2.2.1, (fm_cells (blk_below HY.out HB.out)).2.2.2.2, (fm_cells (blk_below HK1.out HB.out)).2.2.2.1, ck0 HB.out HG.out⟩ (fun hHeld => ?_)
            generalize World.drew _ = wd at HB hHeld ⊢
            refine take_ (i := 0) (N := some 31) (v := ?_) (a' := ?_) #[true, false, false, false, false, false, false, false] rfl rfl (by kernel_rfl) (fun _ _ _ h => h) (Or.inl ⟨by rfl, ?_⟩) hHeld ?_ ?_
            rotate_left
            · rintro w' ⟨s0, s1, s2, s3, s4, s5, s6⟩
              go_simp
              with_reducible rfl
            rotate_left
            · simp only [Act.put, List.setIfInBounds_toArray, List.set_cons_zero, List.set_cons_succ, i64_w, i32_w]
              rfl
            refine pure_ (i := 1) (N := some 32) (v := ?_) (a' := ?_) #[true, true, false, false, false, false, false, false] rfl rfl (by kernel_rfl) (fun _ _ _ h => h) (Or.inl ⟨by rfl, ?_⟩) ?_ ?_
            rotate_left
            · intro w'
              go_simp
              with_reducible rfl
            rotate_left
            · simp only [Act.put, List.setIfInBounds_toArray, List.set_cons_zero, List.set_cons_succ, i64_w, i32_w]
              rfl
            refine take_ (i := 2) (N := some 33) (v := ?_) (a' := ?_) #[true, true, true, false, false, false, false, false] rfl rfl (by kernel_rfl) (fun _ _ _ h => h) (Or.inl ⟨by rfl, ?_⟩) hHeld ?_ ?_
            rotate_left
            · rintro w' ⟨s0, s1, s2, s3, s4, s5, s6⟩
              go_simp
              with_reducible rfl
            rotate_left
            · simp only [Act.put, List.setIfInBounds_toArray, List.set_cons_zero, List.set_cons_succ, i64_w, i32_w]
              rfl
            refine pure_ (i := 3) (N := some 34) (v := ?_) (a' := ?_) #[true, true, true, true, false, false, false, false] rfl rfl (by kernel_rfl) (fun _ _ _ h => h) (Or.inl ⟨by rfl, ?_⟩) ?_ ?_
            rotate_left
            · intro w'
              go_simp
              with_reducible rfl
            rotate_left
            · simp only [Act.put, List.setIfInBounds_toArray, List.set_cons_zero, List.set_cons_succ, i64_w, i32_w]
              rfl
            refine pure_ (i := 4) (N := some 35) (v := ?_) (a' := ?_) #[true, true, true, true, true, false, false, false] rfl rfl (by kernel_rfl) (fun _ _ _ h => h) (Or.inl ⟨by rfl, ?_⟩) ?_ ?_
            rotate_left
            · intro w'
              go_simp
              with_reducible rfl
            rotate_left
            · simp only [Act.put, List.setIfInBounds_toArray, List.set_cons_zero, List.set_cons_succ, i64_w, i32_w]
              rfl
            refine take_ (i := 5) (N := some 36) (v := ?_) (a' := ?_) #[true, true, true, true, true, true, false, false] rfl rfl (by kernel_rfl) (fun _ _ _ h => h) (Or.inl ⟨by rfl, ?_⟩) hHeld ?_ ?_
            rotate_left
            · rintro w' ⟨s0, s1, s2, s3, s4, s5, s6⟩
              go_simp
              with_reducible rfl
            rotate_left
            · simp only [Act.put, List.setIfInBounds_toArray, List.set_cons_zero, List.set_cons_succ, i64_w, i32_w]
              rfl
            refine one_ (i := 6) (N := some 37) #[true, true, true, true, true, true, true, false] rfl rfl (by kernel_rfl) (by decide) (fun K hK => ?_)
            refine goes_ Try.func121 (by kernel_rfl) rfl #[.agg #[.int .i64 y.f0, .string y.f1, .int .i64 y.f2, .slice Y_3 y.f3.length Y_c3, .slice Y_4 y.f4.length Y_c4], .int .i64 nm.f3[i], .int .i64 0] (by rfl) rfl rfl (by (try simp only [List.map_toArray, List.map_cons, List.map_nil]); first | done | rfl) ?_
            refine (l2ChangeS_any nm.f3[i] 0 y HSF.out Y_3 Y_c3 Y_4 Y_c4 wd (HK.out.later HB.out).now (by have := HTO.out; omega)).mono ?_
            rintro e w4 ⟨v3, v4, rfl, hnw, hb4⟩
            refine ⟨_, rfl, ?_⟩
            have hlo : wr.heap.size ≤ wd.heap.size := HB.out.size
            replace HB := Lib.hid (below_step HB.out hb4)
            have HEQ := HADD.out
            generalize y.chS (wayS nm.f3[i] 0) = y' at hnw HEQ ⊢
            obtain ⟨N_3, N_c3, N_4, N_c4, rfl, rfl, hs4⟩ := hnw.toS
            have HS4 := Lib.hid hs4
            have HE := Lib.hid HEQ
            clear hnw hs4 hb4 HEQ
            refine hK.out _ _ ⟨(fm_cells (blk_below HY.out HB.out)).1, (fm_cells (blk_below HY.out HB.out)).2.1, (fm_cells (blk_below HY.out HB.out)).2.2.1, (fm_cells (blk_below HY.out HB.out)).2.2.2.1, (fm_cells (blk_below HY.out HB.out)).2.2.2.2, (fm_cells (blk_below HK1.out HB.out)).2.2.2.1, ck0 HB.out HG.out⟩ (fun hHeld => ?_)
            clear hK K
            refine norm_ (a' := ?_) ?_ ?_
            rotate_left
            · show Act.put _ (some 37) _ = _
              simp only [Act.put, List.setIfInBounds_toArray, List.set_cons_zero, List.set_cons_succ, i64_w, i32_w]
              rfl
            refine last_ (i := 7) (N := none) #[true, true, true, true, true, true, true, true] rfl rfl (by kernel_rfl) (by decide) (fun K hK => ?_)
            have hyx := blk_below HY.out HB.out
            obtain ⟨z0, z1, z2, z3, z4⟩ := fm_cells hyx
            obtain ⟨f0, f1, f2, f3, f4⟩ := fm_free hyx
            obtain ⟨st1, st2, st3⟩ := st5 hyx (.int .i64 y'.f0) (.string y'.f1) (.int .i64 y'.f2) (.slice N_3 y'.f3.length N_c3) (.slice N_4 y'.f4.length N_c4)
            have HEND := Lib.hid (And.intro st1 (And.intro (FmP.ofS (P := fun b => w.heap.size + 3 ≤ b ∧ b ≠ w3.heap.size) (HS4.out.move (st3 0 w4 (Below.refl 0 _) (Nat.zero_le _)).size (fun b h1 h2 => st2 b (by have := HGY.out; omega))) (fun b h1 h2 => ⟨by have := HGY.out; have := HL2.out; have := HLW.out; omega, by have := HGY.out; omega⟩)) (st3 _ _ (below_step HW.out HB.out) (Nat.le_refl _))))
            clear hyx st1 st2 st3
            refine skip_ (w1 := ?_) (by rfl) rfl ?_ ?_
            rotate_left
            · go_simp
              rfl
            refine hK.out _ _ ?_
            clear hK K z0 z1 z2 z3 z4 f0 f1 f2 f3 f4
            refine done_ (by kernel_rfl) ?_
            go_wp2_with fail
            go_roundg (nm.f3.length - (i + 1))
            case measure => omega
            case rel => exact ⟨i + 1, N_3, N_c3, N_4, N_c4, by omega, Nat.le_refl _, by go_num, ⟨by rw [← HE.out]; exact HEND.out.1⟩, ⟨by rw [← HE.out]; exact HEND.out.2.1⟩, ⟨HEND.out.2.2⟩⟩
          · obtain rfl : i = nm.f3.length := by omega
            rw [List.take_length] at HY HK
            have HTO := Lib.hid (dress_tot HV.out HM.out nm.f3.length)
            rw [List.take_length] at HTO
            have HRE := Lib.hid (dressR_in HV.out HM.out)
            have HK2 := Lib.hid (blk_below K2.out HW.out)
            have HK1 := Lib.hid (blk_below K1.out HW.out)
            obtain ⟨p0, p1, p2, p3, p4⟩ := fm_cells HY.out
            obtain ⟨s0, s1, s2, s3, s4⟩ := fm_cells HK1.out
            generalize x.chS (addL nm.f3) = y at HY HK HTO HRE p0 p1 p2 p3 p4 ⊢
            go_wp2_with fail
            clear p0 p1 p2 p3 p4 s0 s1 s2 s3 s4
            refine (specValid_any y Y_3 Y_c3 Y_4 Y_c4 wr HK.out.now (by have := HTO.out; omega)).mono ?_
            rintro e w5 ⟨rfl, hb5⟩
            have HY5 := Lib.hid (blk_below HY.out hb5)
            have HP5 := Lib.hid (HK.out.later hb5)
            have hk2 := blk_below HK2.out hb5
            have HB5 := Lib.hid (below_step BW.out (below_step HW.out hb5))
            obtain ⟨q0, q1, q2, q3, q4⟩ := fm_cells hk2
            obtain ⟨f0, f1, f2, f3, f4⟩ := fm_free hk2
            clear hb5
            by_cases hy : FmOk y
            · rw [← pB_yes hy]
              have HO := Lib.hid (orN_yes hy)
              clear hy
              obtain ⟨st1, st2, st3⟩ := st5 hk2 (.int .i64 y.f0) (.string y.f1) (.int .i64 y.f2) (.slice Y_3 y.f3.length Y_c3) (.slice Y_4 y.f4.length Y_c4)
              have HEND := Lib.hid (And.intro (HP5.out.out _ (fun b hb _ => st2 b (by omega))) (st3 _ _ HB5.out (by omega)))
              clear st1 st2 st3 hk2
              obtain ⟨p0, p1, p2, p3, p4⟩ := fm_cells HY5.out
              go_wp2_with fail
              refine bodyPost_ret (v := .tuple #[.agg #[.int .i64 y.f0, .string y.f1, .int .i64 y.f2, .slice Y_3 y.f3.length Y_c3, .slice Y_4 y.f4.length Y_c4], .bool true]) (by simp [results, Try.results53, go_sem, q0, q1, q2, q3, q4, f0, f1, f2, f3, f4]) rfl ?_
              rw [HRE.out, HO.out]
              exact ⟨_, _, _, _, rfl, HEND.out.1, HEND.out.2⟩
            · rw [← pB_no hy]
              have HO := Lib.hid (orN_no hy)
              clear hy hk2
              go_wp2_with fail
              refine bodyPost_ret (v := .tuple #[.agg #[.int .i64 0, .string ⟨#[]⟩, .int .i64 0, .slice none 0 0, .slice none 0 0], .bool false]) (by simp [results, Try.results53, go_sem, q0, q1, q2, q3, q4, f0, f1, f2, f3, f4]) rfl ?_
              rw [HRE.out, HO.out]
              refine ⟨none, 0, none, 0, rfl, ⟨Nat.le_refl 0, Kd.C_nil kI _, Nat.le_refl 0, Kd.C_nil kF _⟩, ?_⟩
              repeat (refine below_set ?_ (by omega))
              exact HB5.out
      · have t1 : (nm.f0 == 1) = false := beq_eq_false_iff_ne.mpr hk
        have t2 : (nm.f0 != 1) = true := by simpa using hk
        have HM := Lib.hid (show ¬ IsName nm from fun h => hk h.1)
        clear hk hnv
        obtain ⟨p0, p1, p2, p3, p4⟩ := fm_cells K1.out
        obtain ⟨q0, q1, q2, q3, q4⟩ := fm_cells K2.out
        obtain ⟨f0, f1, f2, f3, f4⟩ := fm_free K2.out
        have HB5 := Lib.hid B2.out
        go_wp2_with fail
        refine bodyPost_ret (v := .tuple #[.agg #[.int .i64 0, .string ⟨#[]⟩, .int .i64 0, .slice none 0 0, .slice none 0 0], .bool false]) (by simp [results, Try.results53, go_sem, q0, q1, q2, q3, q4, f0, f1, f2, f3, f4]) rfl ?_
        rw [dressR_out (fun h => HM.out h.2)]
        refine ⟨none, 0, none, 0, rfl, ⟨Nat.le_refl 0, Kd.C_nil kI _, Nat.le_refl 0, Kd.C_nil kF _⟩, ?_⟩
        repeat (refine below_set ?_ (by omega))
        exact HB5.out
    · rw [← pB_no hnv]
      have HM := Lib.hid (show ¬ IsName nm from fun h => hnv h.2)
      clear hnv
      obtain ⟨q0, q1, q2, q3, q4⟩ := fm_cells K2.out
      obtain ⟨f0, f1, f2, f3, f4⟩ := fm_free K2.out
      have HB5 := Lib.hid B2.out
      go_wp2_with fail
      refine bodyPost_ret (v := .tuple #[.agg #[.int .i64 0, .string ⟨#[]⟩, .int .i64 0, .slice none 0 0, .slice none 0 0], .bool false]) (by simp [results, Try.results53, go_sem, q0, q1, q2, q3, q4, f0, f1, f2, f3, f4]) rfl ?_
      rw [dressR_out (fun h => HM.out h.2)]
      refine ⟨none, 0, none, 0, rfl, ⟨Nat.le_refl 0, Kd.C_nil kI _, Nat.le_refl 0, Kd.C_nil kF _⟩, ?_⟩
      repeat (refine below_set ?_ (by omega))
      exact HB5.out
  · rw [← pB_no hv]
    have HV := Lib.hid hv
    clear hv
    obtain ⟨q0, q1, q2, q3, q4⟩ := fm_cells K2.out
    obtain ⟨f0, f1, f2, f3, f4⟩ := fm_free K2.out
    have HB5 := Lib.hid B1.out
    go_wp2_with fail
    refine bodyPost_ret (v := .tuple #[.agg #[.int .i64 0, .string ⟨#[]⟩, .int .i64 0, .slice none 0 0, .slice none 0 0], .bool false]) (by simp [results, Try.results53, go_sem, q0, q1, q2, q3, q4, f0, f1, f2, f3, f4]) rfl ?_
    rw [dressR_out (fun h => HV.out h.1)]
    refine ⟨none, 0, none, 0, rfl, ⟨Nat.le_refl 0, Kd.C_nil kI _, Nat.le_refl 0, Kd.C_nil kF _⟩, ?_⟩
    repeat (refine below_set ?_ (by omega))
    exact HB5.out
end Go.Proofs.Yteonncnhhccgeaa
end
section
namespace Go.Proofs.Yteonncnhhccgeaa
open Go.RowKit Go.Proofs.YteonncnhhccgeaaW.PrintWords Go.Proofs.YteonncnhhccgeaaW.PrintLast Go.Proofs.YteonncnhhccgeaaW.PrintMore
set_option linter.unusedVariables false
set_option linter.unusedSimpArgs false
set_option maxHeartbeats 4000000 in
set_option maxRecDepth 100000 in
theorem drawDress (l : List Int) (hl : ∀ z, z ∈ l → 0 ≤ z ∧ z < 256) : ∃ (a b : Fm), a.tot ≤ 7000 ∧ b.tot ≤ 7000 ∧ ∀ (A : Option Addr) (c : Nat) (w : World), (Kd.int .u8).C w A l.length l → l.length ≤ c → Calls Try.prog 51 #[.slice A l.length c] w (GetTwo w a b) := by
  obtain ⟨a, n, hat, -, -, hd⟩ := l2Case_ex l hl
  obtain ⟨s, hs, hopen⟩ := open_at l hl
  obtain ⟨v, hv, e2⟩ := ev_pick hs 0 (by omega) 12 (by omega)
  have HC2 := Lib.hid hd
  have HO := Lib.hid hopen
  have HE2 := Lib.hid e2
  clear hopen e2 hv hd
  by_cases v0 : v = 0
  · have t0 : (v == 0) = true := beq_iff_eq.mpr v0
    have hB := Bn_le (show 1 ≤ 4 by omega)
    obtain ⟨b, q2, a2, b2, k1⟩ := some_ex hs 1 (by omega) 1 (by omega)
    refine ⟨a, b, hat, by omega, fun A c w hr hc => ?_⟩
    have K1 := Lib.hid k1
    clear k1 hs a2 b2 hB v0 hat
    go_enter Try.func51, Try.ntmps51
    go_wp2_with fail
    refine (HC2.out A c _ (Kd.C_below hr (below_step (below_new _ _) (below_new _ _))) hc).mono ?_
    rintro e w5 ⟨A_3, A_c3, A_4, A_c4, rfl, hf, hb⟩
    obtain ⟨kr2, kr3, hbw⟩ := two_new hb
    have hb5 := below_new w5 (.cells #[.int .i64 a.f0, .string a.f1, .int .i64 a.f2, .slice A_3 a.f3.length A_c3, .slice A_4 a.f4.length A_c4] 31)
    have HBW := Lib.hid (below_step hbw hb5)
    have HR2 := Lib.hid (blk_below kr2 hb5)
    have HR3 := Lib.hid (blk_below kr3 hb5)
    have HK := Lib.hid (blk_new w5 (.cells #[.int .i64 a.f0, .string a.f1, .int .i64 a.f2, .slice A_3 a.f3.length A_c3, .slice A_4 a.f4.length A_c4] 31))
    have HW2 := Lib.hid (show w.heap.size + 1 < w5.heap.size from blk_lt kr3)
    have hfp := (FmP.ofS (P := fun b => w.heap.size + 2 ≤ b ∧ b < w5.heap.size + 1) hf (fun b h1 h2 => ⟨by simpa using h1, by omega⟩)).later hb5
    have HF := Lib.hid hfp
    have HSZ := Lib.hid (show (w5.alloc (.cells #[.int .i64 a.f0, .string a.f1, .int .i64 a.f2, .slice A_3 a.f3.length A_c3, .slice A_4 a.f4.length A_c4] 31)).heap.size = w5.heap.size + 1 from by simp)
    have HCR := Lib.hid (Kd.C_below hr HBW.out)
    clear hf hb kr2 kr3 hbw hb5 hfp
    go_wp2_with fail
    generalize w5.alloc (.cells #[.int .i64 a.f0, .string a.f1, .int .i64 a.f2, .slice A_3 a.f3.length A_c3, .slice A_4 a.f4.length A_c4] 31) = wz at HBW HR2 HR3 HK HF HSZ HCR ⊢
    refine (HO.out A c wz wz (Below.refl _ _) HCR.out hc).mono ?_
    rintro e w6 ⟨g, rfl, hi, hb, hb2⟩
    have HGE := Lib.hid (show wz.heap.size ≤ g from Q.IsS104.ge hi)
    have HD := Lib.hid (Dr.new hi hb)
    replace HR2 := Lib.hid (blk_below HR2.out hb)
    replace HR3 := Lib.hid (blk_below HR3.out hb)
    replace HK := Lib.hid (blk_below HK.out hb)
    replace HF := Lib.hid (HF.out.later hb)
    clear hi hb hb2
    go_wp2_with fail
    refine (pick_at HE2.out g wz w6 HD.out.is HD.out.b).mono ?_
    rintro e w7 ⟨rfl, hi, hb, hk⟩
    replace HR2 := Lib.hid (hk.blk HR2.out (by have := HGE.out; have := HSZ.out; have := HW2.out; omega) (by simp))
    replace HR3 := Lib.hid (hk.blk HR3.out (by have := HGE.out; have := HSZ.out; have := HW2.out; omega) (by simp))
    replace HK := Lib.hid (hk.blk HK.out (by have := HGE.out; have := HSZ.out; omega) (by simp))
    replace HF := Lib.hid (HF.out.move (keep_size hk) (fun b hp hlt => hk.2 b hlt (by have := HGE.out; have := HSZ.out; have := hp.2; omega) (by simp)))
    replace HD := Lib.hid (HD.out.call hi hb hk)
    clear hi hb hk
    go_wp2_with fail
    have HDD := Lib.hid (HD.out.later (below_drew (Below.refl _ _)))
    have HKD := Lib.hid (blk_drew HK.out)
    have HRD2 := Lib.hid (blk_drew HR2.out)
    have HRD3 := Lib.hid (blk_drew HR3.out)
    have HFD := Lib.hid (HF.out.later (below_drew (Below.refl _ _)))
    clear HK HR2 HR3 HF
    refine start_ (n := 5) (S := (fun W : World => W.cell? ⟨w5.heap.size, 0, none⟩ = some (.int .i64 a.f0) ∧ W.cell? ⟨w5.heap.size, 1, none⟩ = some (.string a.f1) ∧ W.cell? ⟨w5.heap.size, 2, none⟩ = some (.int .i64 a.f2) ∧ W.cell? ⟨w5.heap.size, 3, none⟩ = some (.slice A_3 a.f3.length A_c3) ∧ W.cell? ⟨w5.heap.size, 4, none⟩ = some (.slice A_4 a.f4.length A_c4))) (ds := []) #[false, false, false, false, false] (by kernel_rfl) rfl rfl (fm_cells HKD.out) (fun hHeld => ?_)
    generalize World.drew _ = wd at HDD HKD HRD2 HRD3 HFD hHeld ⊢
    refine take_ (i := 0) (N := some 17) (v := ?_) (a' := ?_) #[true, false, false, false, false] rfl rfl (by kernel_rfl) (fun _ _ _ h => h) (Or.inl ⟨by rfl, ?_⟩) hHeld ?_ ?_
    rotate_left
    · rintro w' ⟨s0, s1, s2, s3, s4⟩
      go_simp
      with_reducible rfl
    rotate_left
    · simp only [Act.put, List.setIfInBounds_toArray, List.set_cons_zero, List.set_cons_succ, i64_w, i32_w]
      rfl
    refine pure_ (i := 1) (N := some 18) (v := ?_) (a' := ?_) #[true, true, false, false, false] rfl rfl (by kernel_rfl) (fun _ _ _ h => h) (Or.inl ⟨by rfl, ?_⟩) ?_ ?_
    rotate_left
    · intro w'
      go_simp
      with_reducible rfl
    rotate_left
    · simp only [Act.put, List.setIfInBounds_toArray, List.set_cons_zero, List.set_cons_succ, i64_w, i32_w]
      rfl
    refine one_ (i := 2) (N := some 19) #[true, true, true, false, false] rfl rfl (by kernel_rfl) (by decide) (fun K hK => ?_)
    refine goes_ Try.func112 (by kernel_rfl) rfl #[.pointer (some ⟨g, 0, none⟩), .int .i64 1] (by rfl) rfl rfl (by (try simp only [List.map_toArray, List.map_cons, List.map_nil]); first | done | rfl) ?_
    refine (K1.out g wz wd HDD.out.is HDD.out.b).mono ?_
    rintro e w9 ⟨B_3, B_c3, B_4, B_c4, rfl, hf, hi, hb, hk⟩
    have HFB := Lib.hid hf
    have HLB := Lib.hid (show w.heap.size + 1 < wd.heap.size from by have := HDD.out.size; have := HW2.out; have := HD.out.lt; have := HGE.out; have := HSZ.out; omega)
    clear hf
    refine ⟨_, rfl, ?_⟩
    replace HKD := Lib.hid (hk.blk HKD.out (by have := HGE.out; have := HSZ.out; omega) (by simp))
    replace HRD2 := Lib.hid (hk.blk HRD2.out (by have := HGE.out; have := HSZ.out; have := HW2.out; omega) (by simp))
    replace HRD3 := Lib.hid (hk.blk HRD3.out (by have := HGE.out; have := HSZ.out; have := HW2.out; omega) (by simp))
    replace HFD := Lib.hid (HFD.out.move (keep_size hk) (fun b hp hlt => hk.2 b hlt (by have := HGE.out; have := HSZ.out; have := hp.2; omega) (by simp)))
    replace HDD := Lib.hid (HDD.out.call hi hb hk)
    clear hi hb hk
    refine hK.out _ _ (fm_cells HKD.out) (fun hHeld => ?_)
    clear hK K
    refine norm_ (a' := ?_) ?_ ?_
    rotate_left
    · show Act.put _ (some 19) _ = _
      simp only [Act.put, List.setIfInBounds_toArray, List.set_cons_zero, List.set_cons_succ, i64_w, i32_w]
      rfl
    obtain ⟨z0, z1, z2, z3, z4⟩ := fm_cells HRD2.out
    obtain ⟨f0, f1, f2, f3, f4⟩ := fm_free HRD2.out
    obtain ⟨st1, st2, st3⟩ := st5 HRD2.out (.int .i64 a.f0) (.string a.f1) (.int .i64 a.f2) (.slice A_3 a.f3.length A_c3) (.slice A_4 a.f4.length A_c4)
    have hn5 : w5.heap.size ≠ w.heap.size := by have := HW2.out; omega
    have hn6 : w5.heap.size ≠ w.heap.size + 1 := by have := HW2.out; omega
    have K5 := Lib.hid ((st2 w5.heap.size hn5).trans HKD.out)
    have R3 := Lib.hid ((st2 (w.heap.size + 1) (by omega)).trans HRD3.out)
    have R2 := Lib.hid st1
    have FA := Lib.hid (HFD.out.move (st3 0 w9 (Below.refl 0 _) (Nat.zero_le _)).size (fun b h1 h2 => st2 b (by have := h1.1; omega)))
    have FB := Lib.hid (HFB.out.move (st3 0 w9 (Below.refl 0 _) (Nat.zero_le _)).size (fun b h1 h2 => st2 b (by have := HLB.out; omega)))
    have BB := Lib.hid (st3 _ _ (below_step HBW.out HDD.out.b) (Nat.le_refl _))
    clear st1 st2 st3
    refine one_ (i := 3) (N := none) #[true, true, true, true, false] rfl rfl (by kernel_rfl) (by decide) (fun K hK => ?_)
    refine skip_ (w1 := ?_) (by rfl) rfl ?_ ?_
    rotate_left
    · go_simp
      rfl
    refine hK.out _ _ (fm_cells K5.out) (fun hHeld => ?_)
    clear hK K z0 z1 z2 z3 z4 f0 f1 f2 f3 f4
    generalize World.setCell (World.setCell (World.setCell (World.setCell (World.setCell w9 _ _) _ _) _ _) _ _) _ _ = wx at K5 R3 R2 FA FB BB hHeld ⊢
    obtain ⟨z0, z1, z2, z3, z4⟩ := fm_cells R3.out
    obtain ⟨f0, f1, f2, f3, f4⟩ := fm_free R3.out
    obtain ⟨st1, st2, st3⟩ := st5 R3.out (.int .i64 b.f0) (.string b.f1) (.int .i64 b.f2) (.slice B_3 b.f3.length B_c3) (.slice B_4 b.f4.length B_c4)
    have K5' := Lib.hid ((st2 w5.heap.size hn6).trans K5.out)
    have R2' := Lib.hid ((st2 w.heap.size (by omega)).trans R2.out)
    have R3' := Lib.hid st1
    have FA' := Lib.hid (FA.out.move (st3 0 wx (Below.refl 0 _) (Nat.zero_le _)).size (fun b h1 h2 => st2 b (by have := h1.1; omega))).now
    have FB' := Lib.hid (FB.out.move (st3 0 wx (Below.refl 0 _) (Nat.zero_le _)).size (fun b h1 h2 => st2 b (by have := HLB.out; omega))).now
    have BB' := Lib.hid (st3 _ _ BB.out (by omega))
    clear st1 st2 st3 FA FB BB R2 K5 R3
    refine one_ (i := 4) (N := none) #[true, true, true, true, true] rfl rfl (by kernel_rfl) (by decide) (fun K hK => ?_)
    refine skip_ (w1 := ?_) (by rfl) rfl ?_ ?_
    rotate_left
    · go_simp
      rfl
    refine hK.out _ _ (fm_cells K5'.out) (fun hHeld => ?_)
    clear hK K z0 z1 z2 z3 z4 f0 f1 f2 f3 f4
    generalize World.setCell (World.setCell (World.setCell (World.setCell (World.setCell wx _ _) _ _) _ _) _ _) _ _ = wy at K5' R2' R3' FA' FB' BB' hHeld ⊢
    refine done_ (by kernel_rfl) ?_
    obtain ⟨z0, z1, z2, z3, z4⟩ := fm_cells R2'.out
    obtain ⟨y0, y1, y2, y3, y4⟩ := fm_cells R3'.out
    try go_wp2_with fail
    refine bodyPost_ret (v := .tuple #[.agg #[.int .i64 a.f0, .string a.f1, .int .i64 a.f2, .slice A_3 a.f3.length A_c3, .slice A_4 a.f4.length A_c4], .agg #[.int .i64 b.f0, .string b.f1, .int .i64 b.f2, .slice B_3 b.f3.length B_c3, .slice B_4 b.f4.length B_c4]]) (by simp [results, Try.results51, go_sem, z0, z1, z2, z3, z4, y0, y1, y2, y3, y4]) rfl ?_
    exact ⟨_, _, _, _, _, _, _, _, rfl, FA'.out, FB'.out, BB'.out⟩
  · have t0 : (v == 0) = false := beq_eq_false_iff_ne.mpr v0
    have ht1 : (lnm (⟨#[120]⟩ : ByteArray)).tot = 1 + 0 + 0 := Fm.tot_eq _
    have hs1 : (lnm (⟨#[120]⟩ : ByteArray)).size = 1 + 0 := Fm.size_eq _
    obtain ⟨b, q2, a2, b2, _, f3, k2⟩ := dress_ex hs (lnm (⟨#[120]⟩ : ByteArray)) (by omega) 1 (by omega)
    refine ⟨a, b, hat, by omega, fun A c w hr hc => ?_⟩
    have K2 := Lib.hid k2
    clear k2 hs a2 b2 f3 ht1 hs1 v0 hat
    go_enter Try.func51, Try.ntmps51
    go_wp2_with fail
    refine (HC2.out A c _ (Kd.C_below hr (below_step (below_new _ _) (below_new _ _))) hc).mono ?_
    rintro e w5 ⟨A_3, A_c3, A_4, A_c4, rfl, hf, hb⟩
    obtain ⟨kr2, kr3, hbw⟩ := two_new hb
    have hb5 := below_new w5 (.cells #[.int .i64 a.f0, .string a.f1, .int .i64 a.f2, .slice A_3 a.f3.length A_c3, .slice A_4 a.f4.length A_c4] 31)
    have HBW := Lib.hid (below_step hbw hb5)
    have HR2 := Lib.hid (blk_below kr2 hb5)
    have HR3 := Lib.hid (blk_below kr3 hb5)
    have HK := Lib.hid (blk_new w5 (.cells #[.int .i64 a.f0, .string a.f1, .int .i64 a.f2, .slice A_3 a.f3.length A_c3, .slice A_4 a.f4.length A_c4] 31))
    have HW2 := Lib.hid (show w.heap.size + 1 < w5.heap.size from blk_lt kr3)
    have hfp := (FmP.ofS (P := fun b => w.heap.size + 2 ≤ b ∧ b < w5.heap.size + 1) hf (fun b h1 h2 => ⟨by simpa using h1, by omega⟩)).later hb5
    have HF := Lib.hid hfp
    have HSZ := Lib.hid (show (w5.alloc (.cells #[.int .i64 a.f0, .string a.f1, .int .i64 a.f2, .slice A_3 a.f3.length A_c3, .slice A_4 a.f4.length A_c4] 31)).heap.size = w5.heap.size + 1 from by simp)
    have HCR := Lib.hid (Kd.C_below hr HBW.out)
    clear hf hb kr2 kr3 hbw hb5 hfp
    go_wp2_with fail
    generalize w5.alloc (.cells #[.int .i64 a.f0, .string a.f1, .int .i64 a.f2, .slice A_3 a.f3.length A_c3, .slice A_4 a.f4.length A_c4] 31) = wz at HBW HR2 HR3 HK HF HSZ HCR ⊢
    refine (HO.out A c wz wz (Below.refl _ _) HCR.out hc).mono ?_
    rintro e w6 ⟨g, rfl, hi, hb, hb2⟩
    have HGE := Lib.hid (show wz.heap.size ≤ g from Q.IsS104.ge hi)
    have HD := Lib.hid (Dr.new hi hb)
    replace HR2 := Lib.hid (blk_below HR2.out hb)
    replace HR3 := Lib.hid (blk_below HR3.out hb)
    replace HK := Lib.hid (blk_below HK.out hb)
    replace HF := Lib.hid (HF.out.later hb)
    clear hi hb hb2
    go_wp2_with fail
    refine (pick_at HE2.out g wz w6 HD.out.is HD.out.b).mono ?_
    rintro e w7 ⟨rfl, hi, hb, hk⟩
    replace HR2 := Lib.hid (hk.blk HR2.out (by have := HGE.out; have := HSZ.out; have := HW2.out; omega) (by simp))
    replace HR3 := Lib.hid (hk.blk HR3.out (by have := HGE.out; have := HSZ.out; have := HW2.out; omega) (by simp))
    replace HK := Lib.hid (hk.blk HK.out (by have := HGE.out; have := HSZ.out; omega) (by simp))
    replace HF := Lib.hid (HF.out.move (keep_size hk) (fun b hp hlt => hk.2 b hlt (by have := HGE.out; have := HSZ.out; have := hp.2; omega) (by simp)))
    replace HD := Lib.hid (HD.out.call hi hb hk)
    clear hi hb hk
    go_wp2_with fail
    have HDD := Lib.hid (HD.out.later (below_drew (Below.refl _ _)))
    have HKD := Lib.hid (blk_drew HK.out)
    have HRD2 := Lib.hid (blk_drew HR2.out)
    have HRD3 := Lib.hid (blk_drew HR3.out)
    have HFD := Lib.hid (HF.out.later (below_drew (Below.refl _ _)))
    clear HK HR2 HR3 HF
    refine start_ (n := 6) (S := (fun W : World => W.cell? ⟨w5.heap.size, 0, none⟩ = some (.int .i64 a.f0) ∧ W.cell? ⟨w5.heap.size, 1, none⟩ = some (.string a.f1) ∧ W.cell? ⟨w5.heap.size, 2, none⟩ = some (.int .i64 a.f2) ∧ W.cell? ⟨w5.heap.size, 3, none⟩ = some (.slice A_3 a.f3.length A_c3) ∧ W.cell? ⟨w5.heap.size, 4, none⟩ = some (.slice A_4 a.f4.length A_c4))) (ds := []) #[false, false, false, false, false, false] (by kernel_rfl) rfl rfl (fm_cells HKD.out) (fun hHeld => ?_)
    generalize World.drew _ = wd at HDD HKD HRD2 HRD3 HFD hHeld ⊢
    refine take_ (i := 0) (N := some 20) (v := ?_) (a' := ?_) #[true, false, false, false, false, false] rfl rfl (by kernel_rfl) (fun _ _ _ h => h) (Or.inl ⟨by rfl, ?_⟩) hHeld ?_ ?_
    rotate_left
    · rintro w' ⟨s0, s1, s2, s3, s4⟩
      go_simp
      with_reducible rfl
    rotate_left
    · simp only [Act.put, List.setIfInBounds_toArray, List.set_cons_zero, List.set_cons_succ, i64_w, i32_w]
      rfl
    refine pure_ (i := 1) (N := some 21) (v := ?_) (a' := ?_) #[true, true, false, false, false, false] rfl rfl (by kernel_rfl) (fun _ _ _ h => h) (Or.inl ⟨by rfl, ?_⟩) ?_ ?_
    rotate_left
    · intro w'
      go_simp
      with_reducible rfl
    rotate_left
    · simp only [Act.put, List.setIfInBounds_toArray, List.set_cons_zero, List.set_cons_succ, i64_w, i32_w]
      rfl
    refine one_ (i := 2) (N := some 22) #[true, true, true, false, false, false] rfl rfl (by kernel_rfl) (by decide) (fun K hK => ?_)
    refine goes_ Try.func114 (by kernel_rfl) rfl #[.string (⟨#[120]⟩ : ByteArray)] (by rfl) rfl rfl (by (try simp only [List.map_toArray, List.map_cons, List.map_nil]); first | done | rfl) ?_
    refine (l1Name_any (⟨#[120]⟩ : ByteArray) wd).mono ?_
    rintro e w9 ⟨rfl, hb0⟩
    have HD9 := HDD.out.later hb0
    have hi := HD9.is
    have hb := HD9.b
    have hk := KeepBut.of_below hb0 g none
    clear HD9 hb0
    refine ⟨_, rfl, ?_⟩
    replace HKD := Lib.hid (hk.blk HKD.out (by have := HGE.out; have := HSZ.out; omega) (by simp))
    replace HRD2 := Lib.hid (hk.blk HRD2.out (by have := HGE.out; have := HSZ.out; have := HW2.out; omega) (by simp))
    replace HRD3 := Lib.hid (hk.blk HRD3.out (by have := HGE.out; have := HSZ.out; have := HW2.out; omega) (by simp))
    replace HFD := Lib.hid (HFD.out.move (keep_size hk) (fun b hp hlt => hk.2 b hlt (by have := HGE.out; have := HSZ.out; have := hp.2; omega) (by simp)))
    replace HDD := Lib.hid (HDD.out.call hi hb hk)
    clear hi hb hk
    refine hK.out _ _ (fm_cells HKD.out) (fun hHeld => ?_)
    clear hK K
    refine norm_ (a' := ?_) ?_ ?_
    rotate_left
    · show Act.put _ (some 22) _ = _
      simp only [Act.put, List.setIfInBounds_toArray, List.set_cons_zero, List.set_cons_succ, i64_w, i32_w]
      rfl
    refine one_ (i := 3) (N := some 23) #[true, true, true, true, false, false] rfl rfl (by kernel_rfl) (by decide) (fun K hK => ?_)
    refine goes_ Try.func113 (by kernel_rfl) rfl #[.pointer (some ⟨g, 0, none⟩), .agg #[.int .i64 1, .string (⟨#[120]⟩ : ByteArray), .int .i64 0, .slice none 0 0, .slice none 0 0]] (by rfl) rfl rfl (by (try simp only [List.map_toArray, List.map_cons, List.map_nil]); first | done | rfl) ?_
    refine (K2.out g none 0 none 0 wz w9 HDD.out.is HDD.out.b (lnm_in (⟨#[120]⟩ : ByteArray) w9)).mono ?_
    intro e w10 hp
    obtain ⟨B_3, B_c3, B_4, B_c4, rfl, hf, hi, hb, hk⟩ := hp.get
    have HFB := Lib.hid hf
    have HLB := Lib.hid (show w.heap.size + 1 < w9.heap.size from by have := HDD.out.size; have := HW2.out; have := HD.out.lt; have := HGE.out; have := HSZ.out; omega)
    clear hf hp
    refine ⟨_, rfl, ?_⟩
    replace HKD := Lib.hid (hk.blk HKD.out (by have := HGE.out; have := HSZ.out; omega) (by simp))
    replace HRD2 := Lib.hid (hk.blk HRD2.out (by have := HGE.out; have := HSZ.out; have := HW2.out; omega) (by simp))
    replace HRD3 := Lib.hid (hk.blk HRD3.out (by have := HGE.out; have := HSZ.out; have := HW2.out; omega) (by simp))
    replace HFD := Lib.hid (HFD.out.move (keep_size hk) (fun b hp hlt => hk.2 b hlt (by have := HGE.out; have := HSZ.out; have := hp.2; omega) (by simp)))
    replace HDD := Lib.hid (HDD.out.call hi hb hk)
    clear hi hb hk
    refine hK.out _ _ (fm_cells HKD.out) (fun hHeld => ?_)
    clear hK K
    refine norm_ (a' := ?_) ?_ ?_
    rotate_left
    · show Act.put _ (some 23) _ = _
      simp only [Act.put, List.setIfInBounds_toArray, List.set_cons_zero, List.set_cons_succ, i64_w, i32_w]
      rfl
    obtain ⟨z0, z1, z2, z3, z4⟩ := fm_cells HRD2.out
    obtain ⟨f0, f1, f2, f3, f4⟩ := fm_free HRD2.out
    obtain ⟨st1, st2, st3⟩ := st5 HRD2.out (.int .i64 a.f0) (.string a.f1) (.int .i64 a.f2) (.slice A_3 a.f3.length A_c3) (.slice A_4 a.f4.length A_c4)
    have hn5 : w5.heap.size ≠ w.heap.size := by have := HW2.out; omega
    have hn6 : w5.heap.size ≠ w.heap.size + 1 := by have := HW2.out; omega
    have K5 := Lib.hid ((st2 w5.heap.size hn5).trans HKD.out)
    have R3 := Lib.hid ((st2 (w.heap.size + 1) (by omega)).trans HRD3.out)
    have R2 := Lib.hid st1
    have FA := Lib.hid (HFD.out.move (st3 0 w10 (Below.refl 0 _) (Nat.zero_le _)).size (fun b h1 h2 => st2 b (by have := h1.1; omega)))
    have FB := Lib.hid (HFB.out.move (st3 0 w10 (Below.refl 0 _) (Nat.zero_le _)).size (fun b h1 h2 => st2 b (by have := HLB.out; omega)))
    have BB := Lib.hid (st3 _ _ (below_step HBW.out HDD.out.b) (Nat.le_refl _))
    clear st1 st2 st3
    refine one_ (i := 4) (N := none) #[true, true, true, true, true, false] rfl rfl (by kernel_rfl) (by decide) (fun K hK => ?_)
    refine skip_ (w1 := ?_) (by rfl) rfl ?_ ?_
    rotate_left
    · go_simp
      rfl
    refine hK.out _ _ (fm_cells K5.out) (fun hHeld => ?_)
    clear hK K z0 z1 z2 z3 z4 f0 f1 f2 f3 f4
    generalize World.setCell (World.setCell (World.setCell (World.setCell (World.setCell w10 _ _) _ _) _ _) _ _) _ _ = wx at K5 R3 R2 FA FB BB hHeld ⊢
    obtain ⟨z0, z1, z2, z3, z4⟩ := fm_cells R3.out
    obtain ⟨f0, f1, f2, f3, f4⟩ := fm_free R3.out
    obtain ⟨st1, st2, st3⟩ := st5 R3.out (.int .i64 b.f0) (.string b.f1) (.int .i64 b.f2) (.slice B_3 b.f3.length B_c3) (.slice B_4 b.f4.length B_c4)
    have K5' := Lib.hid ((st2 w5.heap.size hn6).trans K5.out)
    have R2' := Lib.hid ((st2 w.heap.size (by omega)).trans R2.out)
    have R3' := Lib.hid st1
    have FA' := Lib.hid (FA.out.move (st3 0 wx (Below.refl 0 _) (Nat.zero_le _)).size (fun b h1 h2 => st2 b (by have := h1.1; omega))).now
    have FB' := Lib.hid (FB.out.move (st3 0 wx (Below.refl 0 _) (Nat.zero_le _)).size (fun b h1 h2 => st2 b (by have := HLB.out; omega))).now
    have BB' := Lib.hid (st3 _ _ BB.out (by omega))
    clear st1 st2 st3 FA FB BB R2 K5 R3
    refine one_ (i := 5) (N := none) #[true, true, true, true, true, true] rfl rfl (by kernel_rfl) (by decide) (fun K hK => ?_)
    refine skip_ (w1 := ?_) (by rfl) rfl ?_ ?_
    rotate_left
    · go_simp
      rfl
    refine hK.out _ _ (fm_cells K5'.out) (fun hHeld => ?_)
    clear hK K z0 z1 z2 z3 z4 f0 f1 f2 f3 f4
    generalize World.setCell (World.setCell (World.setCell (World.setCell (World.setCell wx _ _) _ _) _ _) _ _) _ _ = wy at K5' R2' R3' FA' FB' BB' hHeld ⊢
    refine done_ (by kernel_rfl) ?_
    obtain ⟨z0, z1, z2, z3, z4⟩ := fm_cells R2'.out
    obtain ⟨y0, y1, y2, y3, y4⟩ := fm_cells R3'.out
    try go_wp2_with fail
    refine bodyPost_ret (v := .tuple #[.agg #[.int .i64 a.f0, .string a.f1, .int .i64 a.f2, .slice A_3 a.f3.length A_c3, .slice A_4 a.f4.length A_c4], .agg #[.int .i64 b.f0, .string b.f1, .int .i64 b.f2, .slice B_3 b.f3.length B_c3, .slice B_4 b.f4.length B_c4]]) (by simp [results, Try.results51, go_sem, z0, z1, z2, z3, z4, y0, y1, y2, y3, y4]) rfl ?_
    exact ⟨_, _, _, _, _, _, _, _, rfl, FA'.out, FB'.out, BB'.out⟩
end Go.Proofs.Yteonncnhhccgeaa
end
section
namespace Go.Proofs.Yteonncnhhccgeaa
open Go.RowKit Go.Proofs.YteonncnhhccgeaaW.PrintWords Go.Proofs.YteonncnhhccgeaaW.PrintLast Go.Proofs.YteonncnhhccgeaaW.PrintMore
set_option linter.unusedVariables false
theorem implSm' {x y : Fm} {b : Bool} (h : pB (SmName x y) = b) (A3 : Option Addr) (c3 : Nat) (A4 : Option Addr) (c4 : Nat) (B3 : Option Addr) (d3 : Nat) (B4 : Option Addr) (d4 : Nat) (w : World) (hx : FmIn w x A3 c3 A4 c4) (hy : FmIn w y B3 d3 B4 d4) (tx : x.tot ≤ 1048576) (ty : y.tot ≤ 1048576) :
    Calls Try.prog 66 #[.agg #[.int .i64 x.f0, .string x.f1, .int .i64 x.f2, .slice A3 x.f3.length c3, .slice A4 x.f4.length c4], .agg #[.int .i64 y.f0, .string y.f1, .int .i64 y.f2, .slice B3 y.f3.length d3, .slice B4 y.f4.length d4]] w (Ret w (.bool b)) :=
  h ▸ implSameName_any x y A3 c3 A4 c4 B3 d3 B4 d4 w hx hy tx ty
end Go.Proofs.Yteonncnhhccgeaa
end
section
namespace Go.Proofs.Yteonncnhhccgeaa
open Go.RowKit Go.Proofs.YteonncnhhccgeaaW.PrintWords Go.Proofs.YteonncnhhccgeaaW.PrintLast Go.Proofs.YteonncnhhccgeaaW.PrintMore
set_option linter.unusedVariables false
set_option linter.unusedSimpArgs false
theorem mem_addL (ns l : List Int) (n : Int) : n ∈ addL ns l ↔ n ∈ l ∨ n ∈ ns := mem_putL ns l n
theorem addL_same : ∀ (ns : List Int) {l : List Int}, (∀ n, n ∈ ns → n ∈ l) → addL ns l = l
  | [], _, _ => rfl
  | a :: ns, l, h => by
    show addL ns (putS l a) = l
    rw [putS_same (h a List.mem_cons_self)]
    exact addL_same ns (fun n hn => h n (List.mem_cons_of_mem _ hn))
theorem dressR_true {nm x z : Fm} (h : dressR nm x = (z, true)) : FmOk x ∧ IsName nm ∧ FmOk (x.chS (addL nm.f3)) ∧ z = x.chS (addL nm.f3) := by
  by_cases hx : FmOk x ∧ IsName nm
  · rw [dressR_in hx.1 hx.2] at h
    obtain ⟨h1, h2⟩ := orN_true h
    exact ⟨hx.1, hx.2, h1, h2⟩
  · rw [dressR_out hx] at h
    cases h
theorem orN_totle {x : Fm} : (orN x).1.tot ≤ 20000 := by
  by_cases h : FmOk x
  · rw [orN_yes h]; exact fmOk_tot h
  · rw [orN_no h]; show zFm.tot ≤ _; rw [zFm_tot]; omega
theorem dressR_tot (nm x : Fm) : (dressR nm x).1.tot ≤ 20000 := by
  by_cases hx : FmOk x ∧ IsName nm
  · rw [dressR_in hx.1 hx.2]; exact orN_totle
  · rw [dressR_out hx]; show zFm.tot ≤ _; rw [zFm_tot]; omega
theorem dress_again {nm x z : Fm} (h : dressR nm x = (z, true)) : dressR nm z = (z, true) := by
  obtain ⟨hx, hn, hz, rfl⟩ := dressR_true h
  have e : (x.chS (addL nm.f3)).chS (addL nm.f3) = x.chS (addL nm.f3) := by
    rw [chS_chS]
    exact chS_ext (AllNm.all (fun y => addL_same _ (fun n hn => (mem_addL _ _ _).2 (.inr hn))) x)
  rw [dressR_in hz hn, e, orN_yes hz]
theorem isName_kids {nm : Fm} (h : IsName nm) : nm.f4 = [] := by
  obtain ⟨m, _, hc⟩ := isOk_cases h.2.1
  have h1 := h.1
  rcases hc with h | h | h <;> first | exact h.2.2.2.2 | omega
theorem dress_self {nm x z : Fm} (h : dressR nm x = (z, true)) : dressR nm nm = (nm, true) ∧ pB (SmName nm nm) = true := by
  obtain ⟨-, hn, -, -⟩ := dressR_true h
  have e : nm.chS (addL nm.f3) = nm := by
    rw [chS_ext (h := fun l => l) (.mk nm (fun _ => addL_same _ (fun _ h => h)) (fun k hk => by rw [isName_kids hn] at hk; cases hk))]
    exact isOk_chS_id hn.2.1
  exact ⟨by rw [dressR_in hn.2 hn, e, orN_yes hn.2], pB_iff.2 ⟨hn.2, hn.2, hn.1, rfl⟩⟩
abbrev addTo (x : Fm) (s : List Int) (i : Nat) : Fm := x.chS (addL (s.take i))
theorem addTo_ok {nm x z : Fm} (h : dressR nm x = (z, true)) (i : Nat) : FmOk (addTo x nm.f3 i) := by
  obtain ⟨hx, hn, hz, rfl⟩ := dressR_true h
  refine (fmOk_chS hx _).2 (((fmOk_sc hx).and ((fmOk_chS hx _).1 hz)).imp (fun y hy => ?_))
  obtain ⟨h1, h2⟩ := hy
  rw [scOk_iff] at h1 h2 ⊢
  have hs := addL_srt (nm.f3.take i) h1.2.1
  have hsub : ∀ n, n ∈ addL (nm.f3.take i) y.f3 → n ∈ addL nm.f3 y.f3 := fun n hn => by
    rw [mem_addL] at hn ⊢
    exact hn.imp id (fun h => List.mem_of_mem_take h)
  exact ⟨Nat.le_trans (srt_len hs hsub) h2.1, hs, fun n hn => h2.2.2 n (hsub n hn)⟩
theorem addTo_zero {nm x z : Fm} (h : dressR nm x = (z, true)) : addTo x nm.f3 0 = x := isOk_chS_id (dressR_true h).1.1
theorem addTo_step {nm x z : Fm} (h : dressR nm x = (z, true)) {i : Nat} (hi : i < nm.f3.length) : reS (fun s => putS s nm.f3[i]) nm.f3[i] (addTo x nm.f3 i) = (addTo x nm.f3 (i + 1), true) := by
  have hr := (scOk_iff.1 (isName_sc (dressR_true h).2.1)).2.2 _ (List.getElem_mem hi)
  have e : (addTo x nm.f3 i).chS (fun s => putS s nm.f3[i]) = addTo x nm.f3 (i + 1) := by
    show (x.chS _).chS _ = x.chS _
    rw [chS_chS]
    congr 1
    funext l
    rw [addL_next nm.f3 i hi]
  rw [reS_in (addTo_ok h i) hr.1 hr.2, e, orN_yes (addTo_ok h (i + 1))]
theorem addTo_all {nm x z : Fm} (h : dressR nm x = (z, true)) : addTo x nm.f3 nm.f3.length = z := by
  obtain ⟨-, -, -, rfl⟩ := dressR_true h
  show x.chS (addL (nm.f3.take nm.f3.length)) = _
  rw [List.take_length]
theorem dress_has {nm x z : Fm} (h : dressR nm x = (z, true)) (hne : namesN x ≠ []) : wB nm.f3 (scAll z) = true := by
  obtain ⟨hx, hn, hz, rfl⟩ := dressR_true h
  obtain ⟨m, hm⟩ := List.exists_mem_of_ne_nil _ hne
  rw [scAll_ok hz, wB_iff]
  exact fun n hn => name_has (fun l => (mem_addL _ _ _).2 (.inr hn)) x ⟨m, hm⟩
theorem implDress' {x nm z : Fm} {b : Bool} (h : dressR nm x = (z, b)) (A3 : Option Addr) (c3 : Nat) (A4 : Option Addr) (c4 : Nat) (B3 : Option Addr) (d3 : Nat) (B4 : Option Addr) (d4 : Nat) (w : World) (hx : FmIn w x A3 c3 A4 c4) (hn : FmIn w nm B3 d3 B4 d4) (tx : x.tot ≤ 1048576) (tn : nm.tot ≤ 1048576) :
    Calls Try.prog 52 #[.agg #[.int .i64 x.f0, .string x.f1, .int .i64 x.f2, .slice A3 x.f3.length c3, .slice A4 x.f4.length c4], .agg #[.int .i64 nm.f0, .string nm.f1, .int .i64 nm.f2, .slice B3 nm.f3.length d3, .slice B4 nm.f4.length d4]] w (GetFV w z (.bool b)) := by
  have h1 := (implDress_new x nm A3 c3 A4 c4 B3 d3 B4 d4 w hx hn tx tn).mono (fun e w' h => h.getFV)
  rw [h] at h1
  exact h1
theorem specDress' {x nm z : Fm} {b : Bool} (h : dressR nm x = (z, b)) (A3 : Option Addr) (c3 : Nat) (A4 : Option Addr) (c4 : Nat) (B3 : Option Addr) (d3 : Nat) (B4 : Option Addr) (d4 : Nat) (w : World) (hx : FmIn w x A3 c3 A4 c4) (hn : FmIn w nm B3 d3 B4 d4) (tx : x.tot ≤ 1000000) (tn : nm.tot ≤ 1000000) :
    Calls Try.prog 53 #[.agg #[.int .i64 x.f0, .string x.f1, .int .i64 x.f2, .slice A3 x.f3.length c3, .slice A4 x.f4.length c4], .agg #[.int .i64 nm.f0, .string nm.f1, .int .i64 nm.f2, .slice B3 nm.f3.length d3, .slice B4 nm.f4.length d4]] w (GetFV w z (.bool b)) := by
  have h1 := specDress_any x nm A3 c3 A4 c4 B3 d3 B4 d4 w hx hn (by omega) (by omega)
  rw [h] at h1
  exact h1
theorem implSAdd' {n : Int} {x z : Fm} {b : Bool} (hz : reS (fun l => putS l n) n x = (z, b)) (A3 : Option Addr) (c3 : Nat) (A4 : Option Addr) (c4 : Nat) (w : World) (hin : FmIn w x A3 c3 A4 c4) (ht : x.tot ≤ 1048576) :
    Calls Try.prog 31 #[.agg #[.int .i64 x.f0, .string x.f1, .int .i64 x.f2, .slice A3 x.f3.length c3, .slice A4 x.f4.length c4], .int .i64 n] w (GetFS w z (.bool b)) := by
  have h := (implAdd_new n x A3 c3 A4 c4 w hin ht).mono (fun e w' h => h.getS)
  rw [hz] at h
  exact h
end Go.Proofs.Yteonncnhhccgeaa
end
