/- Words for the laws' proofs (part 5): contracts of functions, and plain lemmas. -/
import Derived.Test.YtlklclebjeeaaaaPb1
import Derived.Test.YtlklclebjeeaaaaPb2
import Derived.Test.YtlklclebjeeaaaaPb3
import Derived.Test.YtlklclebjeeaaaaPb4
section
namespace Go.Proofs.Ytlklclebjeeaaaa.Q
open Go.RowKit Go.Proofs.YtlklclebjeeaaaaW.PrintWords Go.Proofs.YtlklclebjeeaaaaW.PrintLast Go.Proofs.YtlklclebjeeaaaaW.PrintMore
attribute [local go_sem] max2_int min2_int max_two min_two max_three min_three max_four min_four   -- for this text's walks alone
set_option linter.unusedVariables false
set_option linter.unusedSimpArgs false

/-! ### laws_toBindS: function 13 -/
def laws_toBindS.l0 : Nat → List (S63) → List (S66) → Int → Option ((List (S66)))
  | 0, _, _, _ => none
  | k + 1, x0, x3, x4 => if x4 < (x0.length : Int) then (if 0 ≤ x4 then ((laws_toBind.f k ((rd_T63 x0 x4).f0) ((rd_T63 x0 x4).f1) ((rd_T63 x0 x4).f2)).bind fun bt163 => (if x4 < (x3.length : Int) then (laws_toBindS.l0 k x0 (x3.set (x4 : Int).toNat (⟨bt163.1, bt163.2.1, bt163.2.2⟩ : S66)) (wrap64 (x4 + 1))) else (none))) else (none)) else (some x3)
def laws_toBindS.f (k : Nat) (l0 : List (S63)) : Option ((List (S66))) := if 0 ≤ (l0.length : Int) then (if ((l0.length : Int) : Int).toNat ≤ 5864062014805 then (laws_toBindS.l0 k l0 (List.replicate ((l0.length : Int) : Int).toNat z66) 0) else (none)) else (none)
theorem laws_toBindS.mono_l : ∀ k, (∀ y0 y1 y2, LeO (laws_toBindS.l0 k y0 y1 y2) (laws_toBindS.l0 (k + 1) y0 y1 y2))
  | 0 => fun _ _ _ r h => by simp [laws_toBindS.l0] at h
  | k + 1 => by
    have ih0 := laws_toBindS.mono_l k
    · intro y0 y1 y2
      unfold laws_toBindS.l0
      repeat' first
      | (with_reducible exact ih0 _ _ _)
      | (with_reducible exact laws_toBind.mono _ _ _ _)
      | (with_reducible exact LeO.refl _)
      | (with_reducible exact LeO.none _)
      | (with_reducible refine LeO.ite ?_ ?_)
      | (with_reducible refine LeO.bind ?_ (fun _ => ?_))
      | exact ih0 _ _ _
      | exact laws_toBind.mono _ _ _ _
      | exact LeO.none _
      | refine LeO.ite ?_ ?_
      | refine LeO.bind ?_ (fun _ => ?_)
theorem laws_toBindS.mono : ∀ a0 k, LeO (laws_toBindS.f k a0) (laws_toBindS.f (k + 1) a0) := by
  intro a0 k
  have ih0 := laws_toBindS.mono_l k
  unfold laws_toBindS.f
  repeat' first
      | (with_reducible exact ih0 _ _ _)
      | (with_reducible exact laws_toBind.mono _ _ _ _)
      | (with_reducible exact LeO.refl _)
      | (with_reducible exact LeO.none _)
      | (with_reducible refine LeO.ite ?_ ?_)
      | (with_reducible refine LeO.bind ?_ (fun _ => ?_))
      | exact ih0 _ _ _
      | exact laws_toBind.mono _ _ _ _
      | exact LeO.none _
      | refine LeO.ite ?_ ?_
      | refine LeO.bind ?_ (fun _ => ?_)
set_option maxHeartbeats 8000000 in
set_option maxRecDepth 100000 in
theorem laws_toBindS.calls (k : Nat) (A0 : Option Addr) (c0 : Nat) (l0 : List (S63)) (r : List (S66)) (w : World) (hr0 : Kd.C k63 w A0 l0.length l0) (hc0 : l0.length ≤ c0) (h : laws_toBindS.f k l0 = some r) :
    Calls Try.prog 13 #[.slice A0 l0.length c0] w fun e w' => ∃ v0_ : Value, e = .returned (v0_) ∧ Kd.S k66 66 w' w.heap.size (fun _ => True) v0_ r ∧ Below w.heap.size w w' := by
  have hu63 := Try.underlying63
  have hu66 := Try.underlying66
  have HR0 := Aside0.mk hr0
  have HC0 := Aside0.mk hc0
  clear hr0 hc0
  have HB := Aside0.mk (Below.refl w.heap.size w)
  have H : (if 0 ≤ (l0.length : Int) then (if ((l0.length : Int) : Int).toNat ≤ 5864062014805 then (laws_toBindS.l0 k l0 (List.replicate ((l0.length : Int) : Int).toNat z66) 0) else (none)) else (none)) = some r := h
  clear h
  by_cases c2 : 0 ≤ (l0.length : Int)
  · rw [if_pos c2] at H
    have c2b0 := eq_true c2
    have c2b1 : decide (0 ≤ (l0.length : Int)) = true := decide_eq_true c2
    clear c2
    by_cases c3 : ((l0.length : Int) : Int).toNat ≤ 5864062014805
    · rw [if_pos c3] at H
      have c3b0 := eq_true c3
      have c3b1 : decide (((l0.length : Int) : Int).toNat ≤ 5864062014805) = true := decide_eq_true c3
      clear c3
      obtain ⟨y159, hy159⟩ : ∃ y_ : List (S66), y_ = (List.replicate ((l0.length : Int) : Int).toNat z66) := ⟨_, rfl⟩
      replace H : (laws_toBindS.l0 k l0 y159 0) = some r := by first | (rw [hy159]; with_reducible exact H) | (have H2_ := (Option.bind_some _ _).symm.trans H; rw [hy159]; with_reducible exact H2_) | (have H2_ := (Option.bind_some _ _).symm.trans H; with_reducible exact H2_) | with_reducible exact H | (rw [hy159]; exact H) | exact H
      have Ny159 := Aside0.mk hy159
      clear hy159
      have H' := Aside0.mk H
      clear H
      go_enter Try.func13, Try.ntmps13
      go_wp2_with (first | ((with_reducible refine gate_dst (N := 7) rfl ?_); refine Kd.S_make k66 _ 66 rfl (N := 7) rfl 30 _ _ rfl (l0.length : Int) rfl rfl Try.underlying30 (.agg #[(.string ⟨#[]⟩), (.slice none 0 0), (.int .i64 0)]) 48 info66 rfl (by decide) (by omega) z66 (ok := fun _ => True) (okp := fun _ => True) (k66_mkM _ _ _ z66 (Kd.R_nil _ _ _ _ _)) (fun _ hk => hk) trivial (of_decide_eq_true (by first | (with_reducible assumption) | assumption)) (Nat.le_trans (Nat.mul_le_mul_right _ (of_decide_eq_true (by first | (with_reducible assumption) | assumption) : (l0.length : Int).toNat ≤ 5864062014805)) (by omega)) (Below.refl _ _) (Nat.le_refl _) ?_; intro v160 w4 ho5 hb hg_ hnew_; clear hg_ hnew_; (first | rw [← Ny159.out] at ho5 | (simp only [Int.reduceToNat] at ho5; rw [← Ny159.out] at ho5)); have n0_ := Aside0.mk (Kd.S_lower ho5 (below_size (by repeat (first | (with_reducible first | exact HB.out | apply below_alloc | apply pw_below_drewN | apply below_drew1) | exact HB.out)))); have n1_ := Aside0.mk (below_step (by repeat (first | (with_reducible first | exact HB.out | apply below_alloc | apply pw_below_drewN | apply below_drew1) | exact HB.out)) hb); clear HB; have HO161 := n0_; have HB := n1_; clear n0_ n1_; clear hb ho5))
      go_loopg [4] k (fun kq v4 w' => ∃ (x3_1 : List (S66)) (x4_1 : Int), v4 = .int .i64 x4_1 ∧ Aside0 (laws_toBindS.l0 kq l0 x3_1 x4_1 = some r) ∧ Aside0 (kq ≤ k) ∧ Aside0 (Kd.S k66 66 w' w.heap.size (fun _ => True) v160 x3_1) ∧ Aside0 (Below w.heap.size w w'))
      case atStart => exact ⟨(y159), (0), (by first | rfl | (simp; done) | (simp [*]; done)), H', ⟨Nat.le_refl _⟩, ⟨by (with_reducible repeat (first | apply Kd.S_alloc | apply Kd.S_drewN | apply Kd.S_drew)); exact HO161.out⟩, ⟨by repeat (first | (with_reducible first | exact HB.out | apply below_alloc | apply pw_below_drewN | apply below_drew1) | exact HB.out)⟩⟩
      case round =>
        clear H'
        try clear c1
        try clear c2
        try clear c2b0
        try clear c2b1
        try clear p2
        try clear c3
        try clear c3b0
        try clear c3b1
        obtain ⟨x3_1, x4_1, rfl, HA, HK1, HO_3, HB⟩ := hrel
        cases gk with
        | zero => exact absurd HA.out (by simp [laws_toBindS.l0])
        | succ k1 =>
          have H := HA.out
          clear HA
          simp only [laws_toBindS.l0] at H
          by_cases c6 : x4_1 < (l0.length : Int)
          · rw [if_pos c6] at H
            have c6b0 : decide (x4_1 < (l0.length : Int)) = true := decide_eq_true c6
            clear c6
            by_cases c7 : 0 ≤ x4_1
            · rw [if_pos c7] at H
              have c7b0 : decide (0 ≤ x4_1) = true := decide_eq_true c7
              clear c7
              replace H := Option.bind_eq_some_iff.mp H
              obtain ⟨⟨t163, t164, t167⟩, A80, H⟩ := H
              replace H : (if x4_1 < (x3_1.length : Int) then (laws_toBindS.l0 k1 l0 (x3_1.set (x4_1 : Int).toNat (⟨t163, t164, t167⟩ : S66)) (wrap64 (x4_1 + 1))) else (none)) = some r := H
              have A8 := Aside0.mk A80
              clear A80
              by_cases c9 : x4_1 < (x3_1.length : Int)
              · rw [if_pos c9] at H
                have c9b0 : decide (x4_1 < (x3_1.length : Int)) = true := decide_eq_true c9
                clear c9
                obtain ⟨y168, hy168⟩ : ∃ y_ : List (S66), y_ = (x3_1.set (x4_1 : Int).toNat (⟨t163, t164, t167⟩ : S66)) := ⟨_, rfl⟩
                replace H : (laws_toBindS.l0 k1 l0 y168 (wrap64 (x4_1 + 1))) = some r := by first | (rw [hy168]; with_reducible exact H) | (have H2_ := (Option.bind_some _ _).symm.trans H; rw [hy168]; with_reducible exact H2_) | (have H2_ := (Option.bind_some _ _).symm.trans H; with_reducible exact H2_) | with_reducible exact H | (rw [hy168]; exact H) | exact H
                have Ny168 := Aside0.mk hy168
                clear hy168
                have H' := Aside0.mk H
                clear H
                have p162 : 0 ≤ (x4_1 : Int) := of_decide_eq_true (by first | (with_reducible assumption) | assumption)
                have q162 : x4_1 < (l0.length : Int) := of_decide_eq_true (by first | (with_reducible assumption) | assumption)
                obtain ⟨ad162, A162_1, c162_1, e162, hx162_0, hx162_1, hx162_2, hl162_1, hi162_1⟩ := at_T63 HR0.out x4_1 p162 q162
                cases e162
                replace hx162_0 := (HB.out.cell (World.block_lt_of_cell? w _ hx162_0)).trans hx162_0
                replace hx162_1 := (HB.out.cell (World.block_lt_of_cell? w _ hx162_1)).trans hx162_1
                replace hx162_2 := (HB.out.cell (World.block_lt_of_cell? w _ hx162_2)).trans hx162_2
                have HR162_1 := Aside0.mk hi162_1
                have HC162_1 := Aside0.mk hl162_1
                clear hi162_1 hl162_1
                replace p162 := eq_true p162
                replace q162 := eq_true q162
                go_wp2_with (first | ((with_reducible refine gate_callee (f := 48) rfl ?_); refine goesL_ (some 20) rfl rfl Try.func48 (by kernel_rfl) rfl #[.agg #[.string ((rd_T63 l0 x4_1).f0), .slice A162_1 ((rd_T63 l0 x4_1).f1).length c162_1, .int .i64 ((rd_T63 l0 x4_1).f2)]] rfl (by (try simp only [List.map_toArray, List.map_cons, List.map_nil]); first | done | rfl | (simp only [List.length_drop, List.length_take]; rfl)) ?_; (with_reducible refine (laws_toBind.calls k1 ((rd_T63 l0 x4_1).f0) _ _ ((rd_T63 l0 x4_1).f1) ((rd_T63 l0 x4_1).f2) t163 t164 t167 _ ?side1 ?side2 A8.out).mono ?_); (case side1 => repeat (first | exact (Kd.C_below HR162_1.out HB.out) | (with_reducible refine Kd.C_alloc ?_ _) | (with_reducible refine Kd.C_drewN ?_ _) | (with_reducible refine Kd.C_drew ?_))); (case side2 => exact HC162_1.out); rintro e w11 ⟨v165, rfl, ho0, hb⟩; obtain ⟨E165, ec165, rfl⟩ : ∃ E ec, v165 = .slice E t164.length ec := Kd.R_slice ho0; refine ⟨_, rfl, ?_⟩; have n0_ := Aside0.mk (Kd.S_elder' (by (with_reducible repeat (first | apply Kd.S_alloc | apply Kd.S_drewN | apply Kd.S_drew)); exact HO_3.out) (Kd.R_base ho0) hb); have n1_ := Aside0.mk (Kd.R_lower ho0 (below_size (by repeat (first | (with_reducible first | exact HB.out | apply below_alloc | apply pw_below_drewN | apply below_drew1) | exact HB.out)))); have n2_ := Aside0.mk (below_step (by repeat (first | (with_reducible first | exact HB.out | apply below_alloc | apply pw_below_drewN | apply below_drew1) | exact HB.out)) hb); clear HO_3; clear HB; have HO_3 := n0_; have HO166 := n1_; have HB := n2_; clear n0_ n1_ n2_; (try clear hb); (try clear hb2); (try clear hk); (try clear hi); (try clear ho0); have p10 : 0 ≤ (x4_1 : Int) := of_decide_eq_true (by first | (with_reducible assumption) | assumption); have q10 : (x4_1 : Int) < ((x3_1.length : Int) : Int) := of_decide_eq_true (by first | (with_reducible assumption) | assumption); obtain ⟨go10, co10, eo10, gb10, gl10, cl10, HG10⟩ := Kd.S_form HO_3.out (by omega); (first | cases eo10 | (injection eo10 with ea_ en_ ec_; (first | subst ea_ | (injection ea_ with ea_; subst ea_)); subst ec_; clear en_)); have GB10 := Aside0.mk gb10; have GG10 := Aside0.mk HG10; clear gb10 gl10 HG10; obtain ⟨_, ce10, hcl10, hM10, hcc10, hfr10, _, _⟩ := Kd.S_elem HO_3.out z66 (x4_1 : Int) p10 q10; obtain ⟨ve10_1, rfl, ge10_1⟩ := k66_openM hM10; have hx10_0 : w11.cell? ⟨go10, (x4_1 : Int).toNat * 3, none⟩ = some (.string ((rd_T66 x3_1 x4_1).f0)) := hcc10 0 _ rfl; have hx10_1 : w11.cell? ⟨go10, (x4_1 : Int).toNat * 3 + 1, none⟩ = some (ve10_1) := hcc10 1 _ rfl; have hx10_2 : w11.cell? ⟨go10, (x4_1 : Int).toNat * 3 + 2, none⟩ = some (.int .i64 ((rd_T66 x3_1 x4_1).f2)) := hcc10 2 _ rfl; have hf10_0 : w11.frozen? ⟨go10, (x4_1 : Int).toNat * 3, none⟩ = false := hfr10 0; have hf10_1 : w11.frozen? ⟨go10, (x4_1 : Int).toNat * 3 + 1, none⟩ = false := hfr10 1; have hf10_2 : w11.frozen? ⟨go10, (x4_1 : Int).toNat * 3 + 2, none⟩ = false := hfr10 2; clear hcl10 hcc10 hfr10 hM10; replace p10 := eq_true p10; replace q10 := eq_true q10; have n_ := Aside0.mk (Kd.S_mono (ok' := (fun k_ => some k_ ≠ ((Value.slice E165 t164.length ec165) : Value).ownBlock)) HO_3.out (fun k_ hk => hk.2)); clear HO_3; have HO_3 := n_; clear n_; have HX12 := Aside0.mk (show Kd.S k66 66 w11 w.heap.size (fun k_ => ((fun _ => True)) k_ ∧ ¬ ((fun k_ => some k_ = ((Value.slice E165 t164.length ec165) : Value).ownBlock)) k_) (.slice (some ⟨go10, 0, none⟩) x3_1.length co10) x3_1 from (by (with_reducible repeat (first | apply Kd.S_alloc | apply Kd.S_drewN | apply Kd.S_drew)); exact Kd.S_mono HO_3.out (fun k_ hk => ⟨trivial, fun e_ => hk e_⟩))); obtain ⟨oki12, ce12, hcl12, hM12, hcc12, hfr12, hoki12, hH12⟩ := Kd.S_elem HX12.out z66 (x4_1 : Int) (of_decide_eq_true (by first | (with_reducible assumption) | assumption)) (by have h_ : (x4_1 : Int) < ((x3_1.length : Int) : Int) := of_decide_eq_true (by first | (with_reducible assumption) | assumption); first | exact h_ | (have e_ := (Kd.S_reads' HO_3.out).1; omega) | simpa using h_); obtain ⟨ve12_1, rfl, ge12_1⟩ := k66_openM hM12; have HP12 := Kd.S_seg hH12 (of_decide_eq_true (by first | (with_reducible assumption) | assumption)) (by have h_ : (x4_1 : Int) < ((x3_1.length : Int) : Int) := of_decide_eq_true (by first | (with_reducible assumption) | assumption); first | exact h_ | (have e_ := (Kd.S_reads' HO_3.out).1; omega) | simpa using h_) (seg := [.string t163, (Value.slice E165 t164.length ec165), .int .i64 t167]) (j := 0) (show 3 ≤ 3 from by decide) (x' := (⟨t163, t164, t167⟩ : S66)) (k66_mkM _ _ _ (⟨t163, t164, t167⟩ : S66) (Kd.R_mono (Kd.R_tight rfl (Kd.R_mono (ok' := fun k_ => ((fun _ => True)) k_ ∧ k_ ≠ go10) (Kd.R_apart' (HO166.out) (Kd.S_typed HO_3.out) (by decide)) (fun k_ hk => ⟨trivial, fun e_ => (hk.2) (by rw [e_]; rfl)⟩))) (fun _ h_ => Or.inr (h_)))) (fun _ hk => hk) (fun k_ hk_ => ((Kd.R_mono (ok' := fun k_ => ((fun _ => True)) k_ ∧ k_ ≠ go10) (Kd.R_apart' (HO166.out) (Kd.S_typed HO_3.out) (by decide)) (fun k_ hk => ⟨trivial, fun e_ => (hk.2) (by rw [e_]; rfl)⟩))).1 k_ hk_.symm); have hx12_0 := hcc12 0 _ rfl; (try simp only [show (k66).sz = 3 from rfl, Nat.mul_one, Nat.add_zero] at hx12_0); have hf12_0 := hfr12 0; (try simp only [show (k66).sz = 3 from rfl, Nat.mul_one, Nat.add_zero] at hf12_0); have hx12_1 := hcc12 1 _ rfl; (try simp only [show (k66).sz = 3 from rfl, Nat.mul_one, Nat.add_zero] at hx12_1); have hf12_1 := hfr12 1; (try simp only [show (k66).sz = 3 from rfl, Nat.mul_one, Nat.add_zero] at hf12_1); have hx12_2 := hcc12 2 _ rfl; (try simp only [show (k66).sz = 3 from rfl, Nat.mul_one, Nat.add_zero] at hx12_2); have hf12_2 := hfr12 2; (try simp only [show (k66).sz = 3 from rfl, Nat.mul_one, Nat.add_zero] at hf12_2); clear hcl12 hcc12 hfr12 hM12 hoki12 hH12) | ((with_reducible refine gate_store (t := 66) (p := 21) rfl ?_); refine store_event (t := 66) (p := 21) (v := ?vo_w13) (w1 := (((w11.setCell ⟨go10, (x4_1 : Int).toNat * 3, none⟩ (.string t163)).setCell ⟨go10, (x4_1 : Int).toNat * 3 + 1, none⟩ ((Value.slice E165 t164.length ec165))).setCell ⟨go10, (x4_1 : Int).toNat * 3 + 2, none⟩ (.int .i64 t167))) ?hg ?ho ?hn ?hr ?_; (case ho => rfl); (case hg => rfl); (case hn => rfl); (case hr => first | (go_simp; done) | (go_simp; rfl)); intro w13 hw; have hg : w11.grownBy w13 (some go10) := (by rw [hw]; exact HP12.2); have hp_ : Kd.S k66 66 w13 w.heap.size (fun _ => True) (.slice (some ⟨go10, 0, none⟩) x3_1.length co10) y168 := (by rw [hw, Ny168.out]; exact HP12.1); clear HP12; have n0_ := Aside0.mk (hp_); have n1_ := Aside0.mk ((by rw [hw]; exact below_set (below_set (below_set (HB.out) GB10.out) GB10.out) GB10.out : Below w.heap.size w w13)); clear HO_3; clear HB; clear HO166; have HO_3 := n0_; have HB := n1_; clear n0_ n1_; clear hg hw hp_))
                go_roundg k1
                case measure => have := HK1.out; omega
                case rel => exact ⟨(y168), (wrap64 (x4_1 + 1)), (by first | rfl | (simp; done) | (simp [*]; done)), H', ⟨by have := HK1.out; omega⟩, ⟨by (with_reducible repeat (first | apply Kd.S_alloc | apply Kd.S_drewN | apply Kd.S_drew)); exact HO_3.out⟩, ⟨by repeat (first | (with_reducible first | exact HB.out | apply below_alloc | apply pw_below_drewN | apply below_drew1) | exact HB.out)⟩⟩
              · rw [if_neg c9] at H
                exact absurd H (by simp)
            · rw [if_neg c7] at H
              exact absurd H (by simp)
          · rw [if_neg c6] at H
            have c6b0 : decide (x4_1 < (l0.length : Int)) = false := decide_eq_false c6
            clear c6
            obtain rfl := Option.some.inj H
            go_wp2
            go_ret
            exact ⟨_, by first | rfl | (simp [errW_none, errW_some] <;> rfl) | (simp [*, errW_none, errW_some] <;> rfl), by (with_reducible repeat (first | apply Kd.S_alloc | apply Kd.S_drewN | apply Kd.S_drew)); exact HO_3.out, by repeat (first | (with_reducible first | exact HB.out | apply below_alloc | apply pw_below_drewN | apply below_drew1) | exact HB.out)⟩
    · rw [if_neg c3] at H
      exact absurd H (by simp)
  · rw [if_neg c2] at H
    exact absurd H (by simp)

/-! ### laws_eqIntS: function 16 -/
def laws_eqIntS.l0 : Nat → List Int → List Int → Int → Option (Bool)
  | 0, _, _, _ => none
  | k + 1, x0, x1, x5 => if x5 < (x0.length : Int) then (if 0 ≤ x5 then (if x5 < (x1.length : Int) then (if (rd x0 x5) = (rd x1 x5) then (laws_eqIntS.l0 k x0 x1 (wrap64 (x5 + 1))) else (some false)) else (none)) else (none)) else (some true)
def laws_eqIntS.f (k : Nat) (l0 : List Int) (l1 : List Int) : Option (Bool) := if (l0.length : Int) = (l1.length : Int) then (laws_eqIntS.l0 k l0 l1 0) else (some false)
theorem laws_eqIntS.mono_l : ∀ k, (∀ y0 y1 y2, LeO (laws_eqIntS.l0 k y0 y1 y2) (laws_eqIntS.l0 (k + 1) y0 y1 y2))
  | 0 => fun _ _ _ r h => by simp [laws_eqIntS.l0] at h
  | k + 1 => by
    have ih0 := laws_eqIntS.mono_l k
    · intro y0 y1 y2
      unfold laws_eqIntS.l0
      repeat' first
      | (with_reducible exact ih0 _ _ _)
      | (with_reducible exact LeO.refl _)
      | (with_reducible exact LeO.none _)
      | (with_reducible refine LeO.ite ?_ ?_)
      | (with_reducible refine LeO.bind ?_ (fun _ => ?_))
      | exact ih0 _ _ _
      | exact LeO.none _
      | refine LeO.ite ?_ ?_
      | refine LeO.bind ?_ (fun _ => ?_)
theorem laws_eqIntS.mono : ∀ a0 a1 k, LeO (laws_eqIntS.f k a0 a1) (laws_eqIntS.f (k + 1) a0 a1) := by
  intro a0 a1 k
  have ih0 := laws_eqIntS.mono_l k
  unfold laws_eqIntS.f
  repeat' first
      | (with_reducible exact ih0 _ _ _)
      | (with_reducible exact LeO.refl _)
      | (with_reducible exact LeO.none _)
      | (with_reducible refine LeO.ite ?_ ?_)
      | (with_reducible refine LeO.bind ?_ (fun _ => ?_))
      | exact ih0 _ _ _
      | exact LeO.none _
      | refine LeO.ite ?_ ?_
      | refine LeO.bind ?_ (fun _ => ?_)
set_option maxHeartbeats 8000000 in
set_option maxRecDepth 100000 in
theorem laws_eqIntS.calls (k : Nat) (A0 : Option Addr) (c0 : Nat) (l0 : List Int) (A1 : Option Addr) (c1 : Nat) (l1 : List Int) (r : Bool) (w : World) (hr0 : Kd.C (Kd.int .i64) w A0 l0.length l0) (hc0 : l0.length ≤ c0) (hr1 : Kd.C (Kd.int .i64) w A1 l1.length l1) (hc1 : l1.length ≤ c1) (h : laws_eqIntS.f k l0 l1 = some r) :
    Calls Try.prog 16 #[.slice A0 l0.length c0, .slice A1 l1.length c1] w fun e w' => e = .returned (.bool r) ∧ Drawn0 w w' := by
  have HR0 := Aside0.mk hr0
  have HC0 := Aside0.mk hc0
  clear hr0 hc0
  have HR1 := Aside0.mk hr1
  have HC1 := Aside0.mk hc1
  clear hr1 hc1
  have H : (if (l0.length : Int) = (l1.length : Int) then (laws_eqIntS.l0 k l0 l1 0) else (some false)) = some r := h
  clear h
  by_cases c3 : (l0.length : Int) = (l1.length : Int)
  · rw [if_pos c3] at H
    have c3b0 : ((l0.length : Int) == (l1.length : Int)) = true := beq_iff_eq.mpr c3
    have c3b1 : ((l0.length : Int) != (l1.length : Int)) = false := bne_eq_false_iff_eq.mpr c3
    have c3b2 : (l0.length == l1.length) = true := by first | simpa using c3 | (simp at c3 ⊢; omega)
    clear c3
    have H' := Aside0.mk H
    clear H
    go_enter Try.func16, Try.ntmps16
    go_wp2
    repeat (go_quiet (fail); try go_wp2)
    go_loopg [5] k (fun kq v5 w' => ∃ (x5_1 : Int), v5 = .int .i64 x5_1 ∧ Aside0 (laws_eqIntS.l0 kq l0 l1 x5_1 = some r) ∧ Aside0 (kq ≤ k) ∧ Drawn0 w w')
    case atStart => exact ⟨(0), (by first | rfl | (simp; done) | (simp [*]; done)), H', ⟨Nat.le_refl _⟩, by repeat (first | exact Drawn0.refl _ | apply Drawn0.step)⟩
    case round =>
      clear H'
      try clear c1
      try clear p2
      try clear c3
      try clear c3b0
      try clear c3b1
      try clear c3b2
      obtain ⟨x5_1, rfl, HA, HK1, ⟨m1, rfl⟩⟩ := hrel
      cases gk with
      | zero => exact absurd HA.out (by simp [laws_eqIntS.l0])
      | succ k1 =>
        have H := HA.out
        clear HA
        simp only [laws_eqIntS.l0] at H
        by_cases c4 : x5_1 < (l0.length : Int)
        · rw [if_pos c4] at H
          have c4b0 : decide (x5_1 < (l0.length : Int)) = true := decide_eq_true c4
          clear c4
          by_cases c5 : 0 ≤ x5_1
          · rw [if_pos c5] at H
            have c5b0 : decide (0 ≤ x5_1) = true := decide_eq_true c5
            clear c5
            by_cases c6 : x5_1 < (l1.length : Int)
            · rw [if_pos c6] at H
              have c6b0 : decide (x5_1 < (l1.length : Int)) = true := decide_eq_true c6
              clear c6
              by_cases c7 : (rd l0 x5_1) = (rd l1 x5_1)
              · rw [if_pos c7] at H
                have c7b0 : ((rd l0 x5_1) == (rd l1 x5_1)) = true := beq_iff_eq.mpr c7
                have c7b1 : ((rd l0 x5_1) != (rd l1 x5_1)) = false := bne_eq_false_iff_eq.mpr c7
                clear c7
                have H' := Aside0.mk H
                clear H
                have p187 : 0 ≤ (x5_1 : Int) := of_decide_eq_true (by first | (with_reducible assumption) | assumption)
                have q187 : x5_1 < (l0.length : Int) := of_decide_eq_true (by first | (with_reducible assumption) | assumption)
                obtain ⟨ad187, e187, hx187_0⟩ := Kd.at_int HR0.out x5_1 p187 q187
                cases e187
                replace p187 := eq_true p187
                replace q187 := eq_true q187
                have p188 : 0 ≤ (x5_1 : Int) := of_decide_eq_true (by first | (with_reducible assumption) | assumption)
                have q188 : x5_1 < (l1.length : Int) := of_decide_eq_true (by first | (with_reducible assumption) | assumption)
                obtain ⟨ad188, e188, hx188_0⟩ := Kd.at_int HR1.out x5_1 p188 q188
                cases e188
                replace p188 := eq_true p188
                replace q188 := eq_true q188
                go_wp2
                repeat (go_quiet (fail); try go_wp2)
                go_roundg k1
                case measure => have := HK1.out; omega
                case rel => exact ⟨(wrap64 (x5_1 + 1)), (by first | rfl | (simp; done) | (simp [*]; done)), H', ⟨by have := HK1.out; omega⟩, by repeat (first | exact Drawn0.refl _ | apply Drawn0.step)⟩
              · rw [if_neg c7] at H
                have c7b0 : ((rd l0 x5_1) == (rd l1 x5_1)) = false := beq_eq_false_iff_ne.mpr c7
                have c7b1 : ((rd l0 x5_1) != (rd l1 x5_1)) = true := bne_iff_ne.mpr c7
                obtain rfl := Option.some.inj H
                have p187 : 0 ≤ (x5_1 : Int) := of_decide_eq_true (by first | (with_reducible assumption) | assumption)
                have q187 : x5_1 < (l0.length : Int) := of_decide_eq_true (by first | (with_reducible assumption) | assumption)
                obtain ⟨ad187, e187, hx187_0⟩ := Kd.at_int HR0.out x5_1 p187 q187
                cases e187
                replace p187 := eq_true p187
                replace q187 := eq_true q187
                have p188 : 0 ≤ (x5_1 : Int) := of_decide_eq_true (by first | (with_reducible assumption) | assumption)
                have q188 : x5_1 < (l1.length : Int) := of_decide_eq_true (by first | (with_reducible assumption) | assumption)
                obtain ⟨ad188, e188, hx188_0⟩ := Kd.at_int HR1.out x5_1 p188 q188
                cases e188
                replace p188 := eq_true p188
                replace q188 := eq_true q188
                go_wp2
                repeat (go_quiet (fail); try go_wp2)
                go_ret
                exact ⟨by first | rfl | (simp; done) | (simp [*]; done), by repeat (first | exact Drawn0.refl _ | apply Drawn0.step)⟩
            · rw [if_neg c6] at H
              exact absurd H (by simp)
          · rw [if_neg c5] at H
            exact absurd H (by simp)
        · rw [if_neg c4] at H
          have c4b0 : decide (x5_1 < (l0.length : Int)) = false := decide_eq_false c4
          clear c4
          obtain rfl := Option.some.inj H
          go_wp2
          repeat (go_quiet (fail); try go_wp2)
          go_ret
          exact ⟨by first | rfl | (simp; done) | (simp [*]; done), by repeat (first | exact Drawn0.refl _ | apply Drawn0.step)⟩
  · rw [if_neg c3] at H
    have c3b0 : ((l0.length : Int) == (l1.length : Int)) = false := beq_eq_false_iff_ne.mpr c3
    have c3b1 : ((l0.length : Int) != (l1.length : Int)) = true := bne_iff_ne.mpr c3
    have c3b2 : (l0.length == l1.length) = false := by first | simpa using c3 | (simp at c3 ⊢; omega)
    obtain rfl := Option.some.inj H
    go_enter Try.func16, Try.ntmps16
    go_wp2
    repeat (go_quiet (fail); try go_wp2)
    go_ret
    exact ⟨by first | rfl | (simp; done) | (simp [*]; done), by repeat (first | exact Drawn0.refl _ | apply Drawn0.step)⟩

/-! ### laws_eqBind: function 53 -/
def laws_eqBind.f (k : Nat) (a0_0 : ByteArray) (l0_1 : List Int) (a0_2 : Int) (a1_0 : ByteArray) (l1_1 : List Int) (a1_2 : Int) : Option (Bool) := if a0_0.toList = a1_0.toList then ((laws_eqIntS.f k l0_1 l1_1).bind fun t191 => (if t191 = true then (if a0_2 = a1_2 then (some true) else (some false)) else (some false))) else (some false)
theorem laws_eqBind.mono : ∀ a0 a1 a2 a3 a4 a5 k, LeO (laws_eqBind.f k a0 a1 a2 a3 a4 a5) (laws_eqBind.f (k + 1) a0 a1 a2 a3 a4 a5) := by
  intro a0 a1 a2 a3 a4 a5 k
  unfold laws_eqBind.f
  repeat' first
      | (with_reducible exact laws_eqIntS.mono _ _ _)
      | (with_reducible exact LeO.refl _)
      | (with_reducible exact LeO.none _)
      | (with_reducible refine LeO.ite ?_ ?_)
      | (with_reducible refine LeO.bind ?_ (fun _ => ?_))
      | exact laws_eqIntS.mono _ _ _
      | exact LeO.none _
      | refine LeO.ite ?_ ?_
      | refine LeO.bind ?_ (fun _ => ?_)
set_option maxHeartbeats 8000000 in
set_option maxRecDepth 100000 in
theorem laws_eqBind.calls (k : Nat) (a0_0 : ByteArray) (A0_1 : Option Addr) (c0_1 : Nat) (l0_1 : List Int) (a0_2 : Int) (a1_0 : ByteArray) (A1_1 : Option Addr) (c1_1 : Nat) (l1_1 : List Int) (a1_2 : Int) (r : Bool) (w : World) (hr0_1 : Kd.C (Kd.int .i64) w A0_1 l0_1.length l0_1) (hc0_1 : l0_1.length ≤ c0_1) (hr1_1 : Kd.C (Kd.int .i64) w A1_1 l1_1.length l1_1) (hc1_1 : l1_1.length ≤ c1_1) (h : laws_eqBind.f k a0_0 l0_1 a0_2 a1_0 l1_1 a1_2 = some r) :
    Calls Try.prog 53 #[.agg #[.string a0_0, .slice A0_1 l0_1.length c0_1, .int .i64 a0_2], .agg #[.string a1_0, .slice A1_1 l1_1.length c1_1, .int .i64 a1_2]] w fun e w' => e = .returned (.bool r) ∧ Below w.heap.size w w' := by
  have hu66 := Try.underlying66
  have HR0_1 := Aside0.mk hr0_1
  have HC0_1 := Aside0.mk hc0_1
  clear hr0_1 hc0_1
  have HR1_1 := Aside0.mk hr1_1
  have HC1_1 := Aside0.mk hc1_1
  clear hr1_1 hc1_1
  have HB := Aside0.mk (Below.refl w.heap.size w)
  have H : (if a0_0.toList = a1_0.toList then ((laws_eqIntS.f k l0_1 l1_1).bind fun t191 => (if t191 = true then (if a0_2 = a1_2 then (some true) else (some false)) else (some false))) else (some false)) = some r := h
  clear h
  by_cases c3 : a0_0.toList = a1_0.toList
  · rw [if_pos c3] at H
    have c3b0 : (a0_0.toList == a1_0.toList) = true := beq_iff_eq.mpr c3
    have c3b1 : (a0_0.toList != a1_0.toList) = false := bne_eq_false_iff_eq.mpr c3
    clear c3
    replace H := Option.bind_eq_some_iff.mp H
    obtain ⟨t191, A40, H⟩ := H
    replace H : (if t191 = true then (if a0_2 = a1_2 then (some true) else (some false)) else (some false)) = some r := H
    have A4 := Aside0.mk A40
    clear A40
    by_cases c5 : t191 = true
    · subst c5
      have H1 : (if a0_2 = a1_2 then (some true) else (some false)) = some r := by rw [if_pos rfl] at H; exact H
      clear H
      have H := H1
      clear H1
      by_cases c6 : a0_2 = a1_2
      · rw [if_pos c6] at H
        have c6b0 : (a0_2 == a1_2) = true := beq_iff_eq.mpr c6
        have c6b1 : (a0_2 != a1_2) = false := bne_eq_false_iff_eq.mpr c6
        clear c6
        obtain rfl := Option.some.inj H
        go_enter Try.func53, Try.ntmps53
        go_wp2_with (first | ((with_reducible refine gate_dst (N := 2) rfl ?_); refine box_event ?hg (N := 2) ?hd (cs := #[.string a0_0, .slice A0_1 l0_1.length c0_1, .int .i64 a0_2]) (t := 66) ?hr ?_; (case hd => rfl); (case hg => rfl); (case hr => first | (go_simp; done) | (go_simp; rfl)); intro gb189 hg w7 hbox hb; have n0_ := Aside0.mk (below_step (by repeat (first | (with_reducible first | exact HB.out | apply below_alloc | apply pw_below_drewN | apply below_drew1) | exact HB.out)) hb); have n1_ := Aside0.mk (hbox); have n2_ := Aside0.mk ((by rw [hg]; exact (below_size (by repeat (first | (with_reducible first | exact HB.out | apply below_alloc | apply pw_below_drewN | apply below_drew1) | exact HB.out))) : w.heap.size ≤ gb189)); have n3_ := Aside0.mk ((by rw [hg]; exact (below_size (by repeat (first | (with_reducible first | exact HB.out | apply below_alloc | apply pw_below_drewN | apply below_drew1) | exact HB.out))) : w.heap.size ≤ gb189)); clear HB; have HB := n0_; have BK189 := n1_; have GW189 := n2_; have GE189 := n3_; clear n0_ n1_ n2_ n3_; clear hb hbox hg) | ((with_reducible refine gate_dst (N := 3) rfl ?_); refine box_event ?hg (N := 3) ?hd (cs := #[.string a1_0, .slice A1_1 l1_1.length c1_1, .int .i64 a1_2]) (t := 66) ?hr ?_; (case hd => rfl); (case hg => rfl); (case hr => first | (go_simp; done) | (go_simp; rfl)); intro gb190 hg w8 hbox hb; have n0_ := Aside0.mk (blk_below (g := gb189) (o := .cells #[.string a0_0, .slice A0_1 l0_1.length c0_1, .int .i64 a0_2] 66 (0, 0)) (by (with_reducible repeat (first | refine blk_drewN ?_ _ | refine blk_drew ?_ | refine blk_alloc ?_ _)); exact BK189.out) hb); have n1_ := Aside0.mk (below_step (by repeat (first | (with_reducible first | exact HB.out | apply below_alloc | apply pw_below_drewN | apply below_drew1 | refine below_set ?_ GE189.out) | exact HB.out)) hb); have n2_ := Aside0.mk (hbox); have n3_ := Aside0.mk ((by rw [hg]; exact (below_size (by repeat (first | (with_reducible first | exact HB.out | apply below_alloc | apply pw_below_drewN | apply below_drew1 | refine below_set ?_ GE189.out) | exact HB.out))) : w.heap.size ≤ gb190)); have n4_ := Aside0.mk ((by rw [hg]; exact (below_size (by repeat (first | (with_reducible first | exact HB.out | apply below_alloc | apply pw_below_drewN | apply below_drew1 | refine below_set ?_ GE189.out) | exact HB.out))) : w.heap.size ≤ gb190)); have n5_ := Aside0.mk ((by rw [hg]; exact Nat.ne_of_lt (blk_lt (g := gb189) (o := .cells #[.string a0_0, .slice A0_1 l0_1.length c0_1, .int .i64 a0_2] 66 (0, 0)) (by (with_reducible repeat (first | refine blk_drewN ?_ _ | refine blk_drew ?_ | refine blk_alloc ?_ _)); exact BK189.out)) : gb189 ≠ gb190)); have n6_ := Aside0.mk ((by rw [hg]; exact Nat.ne_of_gt (blk_lt (g := gb189) (o := .cells #[.string a0_0, .slice A0_1 l0_1.length c0_1, .int .i64 a0_2] 66 (0, 0)) (by (with_reducible repeat (first | refine blk_drewN ?_ _ | refine blk_drew ?_ | refine blk_alloc ?_ _)); exact BK189.out)) : gb190 ≠ gb189)); clear BK189; clear HB; have BK189 := n0_; have HB := n1_; have BK190 := n2_; have GW190 := n3_; have GE190 := n4_; have NB189_190 := n5_; have NB190_189 := n6_; clear n0_ n1_ n2_ n3_ n4_ n5_ n6_; clear hb hbox hg; have hnb9 := NB189_190.out; have hnc9 := NB190_189.out; have hcz10_0 : w8.cell? ⟨gb189, 0, none⟩ = some (.string a0_0) := (blk_cell BK189.out 0).trans rfl; have hcz10_1 : w8.cell? ⟨gb189, 1, none⟩ = some (.slice A0_1 l0_1.length c0_1) := (blk_cell BK189.out 1).trans rfl; have hcz10_2 : w8.cell? ⟨gb189, 2, none⟩ = some (.int .i64 a0_2) := (blk_cell BK189.out 2).trans rfl; have hfz10_0 := blk_frozen BK189.out 0; have hfz10_1 := blk_frozen BK189.out 1; have hfz10_2 := blk_frozen BK189.out 2; have hcz11_0 : w8.cell? ⟨gb190, 0, none⟩ = some (.string a1_0) := (blk_cell BK190.out 0).trans rfl; have hcz11_1 : w8.cell? ⟨gb190, 1, none⟩ = some (.slice A1_1 l1_1.length c1_1) := (blk_cell BK190.out 1).trans rfl; have hcz11_2 : w8.cell? ⟨gb190, 2, none⟩ = some (.int .i64 a1_2) := (blk_cell BK190.out 2).trans rfl; have hfz11_0 := blk_frozen BK190.out 0; have hfz11_1 := blk_frozen BK190.out 1; have hfz11_2 := blk_frozen BK190.out 2) | ((with_reducible refine gate_callee (f := 16) rfl ?_); refine goesL_ (some 14) rfl rfl Try.func16 (by kernel_rfl) rfl #[.slice A0_1 l0_1.length c0_1, .slice A1_1 l1_1.length c1_1] rfl (by (try simp only [List.map_toArray, List.map_cons, List.map_nil]); first | done | rfl | (simp only [List.length_drop, List.length_take]; rfl)) ?_; (with_reducible refine (laws_eqIntS.calls k _ _ l0_1 _ _ l1_1 true _ ?side1 ?side2 ?side3 ?side4 A4.out).mono ?_); (case side1 => repeat (first | exact (Kd.C_below HR0_1.out HB.out) | (with_reducible refine Kd.C_alloc ?_ _) | (with_reducible refine Kd.C_drewN ?_ _) | (with_reducible refine Kd.C_drew ?_))); (case side2 => exact HC0_1.out); (case side3 => repeat (first | exact (Kd.C_below HR1_1.out HB.out) | (with_reducible refine Kd.C_alloc ?_ _) | (with_reducible refine Kd.C_drewN ?_ _) | (with_reducible refine Kd.C_drew ?_))); (case side4 => exact HC1_1.out); rintro e w' ⟨rfl, ⟨nd, rfl⟩⟩; refine ⟨_, rfl, ?_⟩))
        go_ret
        exact ⟨by first | rfl | (simp [errW_none, errW_some] <;> rfl) | (simp [*, errW_none, errW_some] <;> rfl), by repeat (first | (with_reducible first | exact HB.out | apply below_alloc | apply pw_below_drewN | apply below_drew1 | refine below_set ?_ GE189.out | refine below_set ?_ GE190.out) | exact HB.out)⟩
      · rw [if_neg c6] at H
        have c6b0 : (a0_2 == a1_2) = false := beq_eq_false_iff_ne.mpr c6
        have c6b1 : (a0_2 != a1_2) = true := bne_iff_ne.mpr c6
        obtain rfl := Option.some.inj H
        go_enter Try.func53, Try.ntmps53
        go_wp2_with (first | ((with_reducible refine gate_dst (N := 2) rfl ?_); refine box_event ?hg (N := 2) ?hd (cs := #[.string a0_0, .slice A0_1 l0_1.length c0_1, .int .i64 a0_2]) (t := 66) ?hr ?_; (case hd => rfl); (case hg => rfl); (case hr => first | (go_simp; done) | (go_simp; rfl)); intro gb189 hg w12 hbox hb; have n0_ := Aside0.mk (below_step (by repeat (first | (with_reducible first | exact HB.out | apply below_alloc | apply pw_below_drewN | apply below_drew1) | exact HB.out)) hb); have n1_ := Aside0.mk (hbox); have n2_ := Aside0.mk ((by rw [hg]; exact (below_size (by repeat (first | (with_reducible first | exact HB.out | apply below_alloc | apply pw_below_drewN | apply below_drew1) | exact HB.out))) : w.heap.size ≤ gb189)); have n3_ := Aside0.mk ((by rw [hg]; exact (below_size (by repeat (first | (with_reducible first | exact HB.out | apply below_alloc | apply pw_below_drewN | apply below_drew1) | exact HB.out))) : w.heap.size ≤ gb189)); clear HB; have HB := n0_; have BK189 := n1_; have GW189 := n2_; have GE189 := n3_; clear n0_ n1_ n2_ n3_; clear hb hbox hg) | ((with_reducible refine gate_dst (N := 3) rfl ?_); refine box_event ?hg (N := 3) ?hd (cs := #[.string a1_0, .slice A1_1 l1_1.length c1_1, .int .i64 a1_2]) (t := 66) ?hr ?_; (case hd => rfl); (case hg => rfl); (case hr => first | (go_simp; done) | (go_simp; rfl)); intro gb190 hg w13 hbox hb; have n0_ := Aside0.mk (blk_below (g := gb189) (o := .cells #[.string a0_0, .slice A0_1 l0_1.length c0_1, .int .i64 a0_2] 66 (0, 0)) (by (with_reducible repeat (first | refine blk_drewN ?_ _ | refine blk_drew ?_ | refine blk_alloc ?_ _)); exact BK189.out) hb); have n1_ := Aside0.mk (below_step (by repeat (first | (with_reducible first | exact HB.out | apply below_alloc | apply pw_below_drewN | apply below_drew1 | refine below_set ?_ GE189.out) | exact HB.out)) hb); have n2_ := Aside0.mk (hbox); have n3_ := Aside0.mk ((by rw [hg]; exact (below_size (by repeat (first | (with_reducible first | exact HB.out | apply below_alloc | apply pw_below_drewN | apply below_drew1 | refine below_set ?_ GE189.out) | exact HB.out))) : w.heap.size ≤ gb190)); have n4_ := Aside0.mk ((by rw [hg]; exact (below_size (by repeat (first | (with_reducible first | exact HB.out | apply below_alloc | apply pw_below_drewN | apply below_drew1 | refine below_set ?_ GE189.out) | exact HB.out))) : w.heap.size ≤ gb190)); have n5_ := Aside0.mk ((by rw [hg]; exact Nat.ne_of_lt (blk_lt (g := gb189) (o := .cells #[.string a0_0, .slice A0_1 l0_1.length c0_1, .int .i64 a0_2] 66 (0, 0)) (by (with_reducible repeat (first | refine blk_drewN ?_ _ | refine blk_drew ?_ | refine blk_alloc ?_ _)); exact BK189.out)) : gb189 ≠ gb190)); have n6_ := Aside0.mk ((by rw [hg]; exact Nat.ne_of_gt (blk_lt (g := gb189) (o := .cells #[.string a0_0, .slice A0_1 l0_1.length c0_1, .int .i64 a0_2] 66 (0, 0)) (by (with_reducible repeat (first | refine blk_drewN ?_ _ | refine blk_drew ?_ | refine blk_alloc ?_ _)); exact BK189.out)) : gb190 ≠ gb189)); clear BK189; clear HB; have BK189 := n0_; have HB := n1_; have BK190 := n2_; have GW190 := n3_; have GE190 := n4_; have NB189_190 := n5_; have NB190_189 := n6_; clear n0_ n1_ n2_ n3_ n4_ n5_ n6_; clear hb hbox hg; have hnb14 := NB189_190.out; have hnc14 := NB190_189.out; have hcz15_0 : w13.cell? ⟨gb189, 0, none⟩ = some (.string a0_0) := (blk_cell BK189.out 0).trans rfl; have hcz15_1 : w13.cell? ⟨gb189, 1, none⟩ = some (.slice A0_1 l0_1.length c0_1) := (blk_cell BK189.out 1).trans rfl; have hcz15_2 : w13.cell? ⟨gb189, 2, none⟩ = some (.int .i64 a0_2) := (blk_cell BK189.out 2).trans rfl; have hfz15_0 := blk_frozen BK189.out 0; have hfz15_1 := blk_frozen BK189.out 1; have hfz15_2 := blk_frozen BK189.out 2; have hcz16_0 : w13.cell? ⟨gb190, 0, none⟩ = some (.string a1_0) := (blk_cell BK190.out 0).trans rfl; have hcz16_1 : w13.cell? ⟨gb190, 1, none⟩ = some (.slice A1_1 l1_1.length c1_1) := (blk_cell BK190.out 1).trans rfl; have hcz16_2 : w13.cell? ⟨gb190, 2, none⟩ = some (.int .i64 a1_2) := (blk_cell BK190.out 2).trans rfl; have hfz16_0 := blk_frozen BK190.out 0; have hfz16_1 := blk_frozen BK190.out 1; have hfz16_2 := blk_frozen BK190.out 2) | ((with_reducible refine gate_callee (f := 16) rfl ?_); refine goesL_ (some 14) rfl rfl Try.func16 (by kernel_rfl) rfl #[.slice A0_1 l0_1.length c0_1, .slice A1_1 l1_1.length c1_1] rfl (by (try simp only [List.map_toArray, List.map_cons, List.map_nil]); first | done | rfl | (simp only [List.length_drop, List.length_take]; rfl)) ?_; (with_reducible refine (laws_eqIntS.calls k _ _ l0_1 _ _ l1_1 true _ ?side1 ?side2 ?side3 ?side4 A4.out).mono ?_); (case side1 => repeat (first | exact (Kd.C_below HR0_1.out HB.out) | (with_reducible refine Kd.C_alloc ?_ _) | (with_reducible refine Kd.C_drewN ?_ _) | (with_reducible refine Kd.C_drew ?_))); (case side2 => exact HC0_1.out); (case side3 => repeat (first | exact (Kd.C_below HR1_1.out HB.out) | (with_reducible refine Kd.C_alloc ?_ _) | (with_reducible refine Kd.C_drewN ?_ _) | (with_reducible refine Kd.C_drew ?_))); (case side4 => exact HC1_1.out); rintro e w' ⟨rfl, ⟨nd, rfl⟩⟩; refine ⟨_, rfl, ?_⟩))
        go_ret
        exact ⟨by first | rfl | (simp [errW_none, errW_some] <;> rfl) | (simp [*, errW_none, errW_some] <;> rfl), by repeat (first | (with_reducible first | exact HB.out | apply below_alloc | apply pw_below_drewN | apply below_drew1 | refine below_set ?_ GE189.out | refine below_set ?_ GE190.out) | exact HB.out)⟩
    · replace c5 := Bool.eq_false_iff.mpr c5
      subst c5
      have H1 : (some false) = some r := by rw [if_neg (show ¬ (false = true) by decide)] at H; exact H
      clear H
      have H := H1
      clear H1
      obtain rfl := Option.some.inj H
      go_enter Try.func53, Try.ntmps53
      go_wp2_with (first | ((with_reducible refine gate_dst (N := 2) rfl ?_); refine box_event ?hg (N := 2) ?hd (cs := #[.string a0_0, .slice A0_1 l0_1.length c0_1, .int .i64 a0_2]) (t := 66) ?hr ?_; (case hd => rfl); (case hg => rfl); (case hr => first | (go_simp; done) | (go_simp; rfl)); intro gb189 hg w17 hbox hb; have n0_ := Aside0.mk (below_step (by repeat (first | (with_reducible first | exact HB.out | apply below_alloc | apply pw_below_drewN | apply below_drew1) | exact HB.out)) hb); have n1_ := Aside0.mk (hbox); have n2_ := Aside0.mk ((by rw [hg]; exact (below_size (by repeat (first | (with_reducible first | exact HB.out | apply below_alloc | apply pw_below_drewN | apply below_drew1) | exact HB.out))) : w.heap.size ≤ gb189)); have n3_ := Aside0.mk ((by rw [hg]; exact (below_size (by repeat (first | (with_reducible first | exact HB.out | apply below_alloc | apply pw_below_drewN | apply below_drew1) | exact HB.out))) : w.heap.size ≤ gb189)); clear HB; have HB := n0_; have BK189 := n1_; have GW189 := n2_; have GE189 := n3_; clear n0_ n1_ n2_ n3_; clear hb hbox hg) | ((with_reducible refine gate_dst (N := 3) rfl ?_); refine box_event ?hg (N := 3) ?hd (cs := #[.string a1_0, .slice A1_1 l1_1.length c1_1, .int .i64 a1_2]) (t := 66) ?hr ?_; (case hd => rfl); (case hg => rfl); (case hr => first | (go_simp; done) | (go_simp; rfl)); intro gb190 hg w18 hbox hb; have n0_ := Aside0.mk (blk_below (g := gb189) (o := .cells #[.string a0_0, .slice A0_1 l0_1.length c0_1, .int .i64 a0_2] 66 (0, 0)) (by (with_reducible repeat (first | refine blk_drewN ?_ _ | refine blk_drew ?_ | refine blk_alloc ?_ _)); exact BK189.out) hb); have n1_ := Aside0.mk (below_step (by repeat (first | (with_reducible first | exact HB.out | apply below_alloc | apply pw_below_drewN | apply below_drew1 | refine below_set ?_ GE189.out) | exact HB.out)) hb); have n2_ := Aside0.mk (hbox); have n3_ := Aside0.mk ((by rw [hg]; exact (below_size (by repeat (first | (with_reducible first | exact HB.out | apply below_alloc | apply pw_below_drewN | apply below_drew1 | refine below_set ?_ GE189.out) | exact HB.out))) : w.heap.size ≤ gb190)); have n4_ := Aside0.mk ((by rw [hg]; exact (below_size (by repeat (first | (with_reducible first | exact HB.out | apply below_alloc | apply pw_below_drewN | apply below_drew1 | refine below_set ?_ GE189.out) | exact HB.out))) : w.heap.size ≤ gb190)); have n5_ := Aside0.mk ((by rw [hg]; exact Nat.ne_of_lt (blk_lt (g := gb189) (o := .cells #[.string a0_0, .slice A0_1 l0_1.length c0_1, .int .i64 a0_2] 66 (0, 0)) (by (with_reducible repeat (first | refine blk_drewN ?_ _ | refine blk_drew ?_ | refine blk_alloc ?_ _)); exact BK189.out)) : gb189 ≠ gb190)); have n6_ := Aside0.mk ((by rw [hg]; exact Nat.ne_of_gt (blk_lt (g := gb189) (o := .cells #[.string a0_0, .slice A0_1 l0_1.length c0_1, .int .i64 a0_2] 66 (0, 0)) (by (with_reducible repeat (first | refine blk_drewN ?_ _ | refine blk_drew ?_ | refine blk_alloc ?_ _)); exact BK189.out)) : gb190 ≠ gb189)); clear BK189; clear HB; have BK189 := n0_; have HB := n1_; have BK190 := n2_; have GW190 := n3_; have GE190 := n4_; have NB189_190 := n5_; have NB190_189 := n6_; clear n0_ n1_ n2_ n3_ n4_ n5_ n6_; clear hb hbox hg; have hnb19 := NB189_190.out; have hnc19 := NB190_189.out; have hcz20_0 : w18.cell? ⟨gb189, 0, none⟩ = some (.string a0_0) := (blk_cell BK189.out 0).trans rfl; have hcz20_1 : w18.cell? ⟨gb189, 1, none⟩ = some (.slice A0_1 l0_1.length c0_1) := (blk_cell BK189.out 1).trans rfl; have hcz20_2 : w18.cell? ⟨gb189, 2, none⟩ = some (.int .i64 a0_2) := (blk_cell BK189.out 2).trans rfl; have hfz20_0 := blk_frozen BK189.out 0; have hfz20_1 := blk_frozen BK189.out 1; have hfz20_2 := blk_frozen BK189.out 2; have hcz21_0 : w18.cell? ⟨gb190, 0, none⟩ = some (.string a1_0) := (blk_cell BK190.out 0).trans rfl; have hcz21_1 : w18.cell? ⟨gb190, 1, none⟩ = some (.slice A1_1 l1_1.length c1_1) := (blk_cell BK190.out 1).trans rfl; have hcz21_2 : w18.cell? ⟨gb190, 2, none⟩ = some (.int .i64 a1_2) := (blk_cell BK190.out 2).trans rfl; have hfz21_0 := blk_frozen BK190.out 0; have hfz21_1 := blk_frozen BK190.out 1; have hfz21_2 := blk_frozen BK190.out 2) | ((with_reducible refine gate_callee (f := 16) rfl ?_); refine goesL_ (some 14) rfl rfl Try.func16 (by kernel_rfl) rfl #[.slice A0_1 l0_1.length c0_1, .slice A1_1 l1_1.length c1_1] rfl (by (try simp only [List.map_toArray, List.map_cons, List.map_nil]); first | done | rfl | (simp only [List.length_drop, List.length_take]; rfl)) ?_; (with_reducible refine (laws_eqIntS.calls k _ _ l0_1 _ _ l1_1 false _ ?side1 ?side2 ?side3 ?side4 A4.out).mono ?_); (case side1 => repeat (first | exact (Kd.C_below HR0_1.out HB.out) | (with_reducible refine Kd.C_alloc ?_ _) | (with_reducible refine Kd.C_drewN ?_ _) | (with_reducible refine Kd.C_drew ?_))); (case side2 => exact HC0_1.out); (case side3 => repeat (first | exact (Kd.C_below HR1_1.out HB.out) | (with_reducible refine Kd.C_alloc ?_ _) | (with_reducible refine Kd.C_drewN ?_ _) | (with_reducible refine Kd.C_drew ?_))); (case side4 => exact HC1_1.out); rintro e w' ⟨rfl, ⟨nd, rfl⟩⟩; refine ⟨_, rfl, ?_⟩))
      go_ret
      exact ⟨by first | rfl | (simp [errW_none, errW_some] <;> rfl) | (simp [*, errW_none, errW_some] <;> rfl), by repeat (first | (with_reducible first | exact HB.out | apply below_alloc | apply pw_below_drewN | apply below_drew1 | refine below_set ?_ GE189.out | refine below_set ?_ GE190.out) | exact HB.out)⟩
  · rw [if_neg c3] at H
    have c3b0 : (a0_0.toList == a1_0.toList) = false := beq_eq_false_iff_ne.mpr c3
    have c3b1 : (a0_0.toList != a1_0.toList) = true := bne_iff_ne.mpr c3
    obtain rfl := Option.some.inj H
    go_enter Try.func53, Try.ntmps53
    go_wp2_with (first | ((with_reducible refine gate_dst (N := 2) rfl ?_); refine box_event ?hg (N := 2) ?hd (cs := #[.string a0_0, .slice A0_1 l0_1.length c0_1, .int .i64 a0_2]) (t := 66) ?hr ?_; (case hd => rfl); (case hg => rfl); (case hr => first | (go_simp; done) | (go_simp; rfl)); intro gb189 hg w22 hbox hb; have n0_ := Aside0.mk (below_step (by repeat (first | (with_reducible first | exact HB.out | apply below_alloc | apply pw_below_drewN | apply below_drew1) | exact HB.out)) hb); have n1_ := Aside0.mk (hbox); have n2_ := Aside0.mk ((by rw [hg]; exact (below_size (by repeat (first | (with_reducible first | exact HB.out | apply below_alloc | apply pw_below_drewN | apply below_drew1) | exact HB.out))) : w.heap.size ≤ gb189)); have n3_ := Aside0.mk ((by rw [hg]; exact (below_size (by repeat (first | (with_reducible first | exact HB.out | apply below_alloc | apply pw_below_drewN | apply below_drew1) | exact HB.out))) : w.heap.size ≤ gb189)); clear HB; have HB := n0_; have BK189 := n1_; have GW189 := n2_; have GE189 := n3_; clear n0_ n1_ n2_ n3_; clear hb hbox hg) | ((with_reducible refine gate_dst (N := 3) rfl ?_); refine box_event ?hg (N := 3) ?hd (cs := #[.string a1_0, .slice A1_1 l1_1.length c1_1, .int .i64 a1_2]) (t := 66) ?hr ?_; (case hd => rfl); (case hg => rfl); (case hr => first | (go_simp; done) | (go_simp; rfl)); intro gb190 hg w23 hbox hb; have n0_ := Aside0.mk (blk_below (g := gb189) (o := .cells #[.string a0_0, .slice A0_1 l0_1.length c0_1, .int .i64 a0_2] 66 (0, 0)) (by (with_reducible repeat (first | refine blk_drewN ?_ _ | refine blk_drew ?_ | refine blk_alloc ?_ _)); exact BK189.out) hb); have n1_ := Aside0.mk (below_step (by repeat (first | (with_reducible first | exact HB.out | apply below_alloc | apply pw_below_drewN | apply below_drew1 | refine below_set ?_ GE189.out) | exact HB.out)) hb); have n2_ := Aside0.mk (hbox); have n3_ := Aside0.mk ((by rw [hg]; exact (below_size (by repeat (first | (with_reducible first | exact HB.out | apply below_alloc | apply pw_below_drewN | apply below_drew1 | refine below_set ?_ GE189.out) | exact HB.out))) : w.heap.size ≤ gb190)); have n4_ := Aside0.mk ((by rw [hg]; exact (below_size (by repeat (first | (with_reducible first | exact HB.out | apply below_alloc | apply pw_below_drewN | apply below_drew1 | refine below_set ?_ GE189.out) | exact HB.out))) : w.heap.size ≤ gb190)); have n5_ := Aside0.mk ((by rw [hg]; exact Nat.ne_of_lt (blk_lt (g := gb189) (o := .cells #[.string a0_0, .slice A0_1 l0_1.length c0_1, .int .i64 a0_2] 66 (0, 0)) (by (with_reducible repeat (first | refine blk_drewN ?_ _ | refine blk_drew ?_ | refine blk_alloc ?_ _)); exact BK189.out)) : gb189 ≠ gb190)); have n6_ := Aside0.mk ((by rw [hg]; exact Nat.ne_of_gt (blk_lt (g := gb189) (o := .cells #[.string a0_0, .slice A0_1 l0_1.length c0_1, .int .i64 a0_2] 66 (0, 0)) (by (with_reducible repeat (first | refine blk_drewN ?_ _ | refine blk_drew ?_ | refine blk_alloc ?_ _)); exact BK189.out)) : gb190 ≠ gb189)); clear BK189; clear HB; have BK189 := n0_; have HB := n1_; have BK190 := n2_; have GW190 := n3_; have GE190 := n4_; have NB189_190 := n5_; have NB190_189 := n6_; clear n0_ n1_ n2_ n3_ n4_ n5_ n6_; clear hb hbox hg; have hnb24 := NB189_190.out; have hnc24 := NB190_189.out; have hcz25_0 : w23.cell? ⟨gb189, 0, none⟩ = some (.string a0_0) := (blk_cell BK189.out 0).trans rfl; have hcz25_1 : w23.cell? ⟨gb189, 1, none⟩ = some (.slice A0_1 l0_1.length c0_1) := (blk_cell BK189.out 1).trans rfl; have hcz25_2 : w23.cell? ⟨gb189, 2, none⟩ = some (.int .i64 a0_2) := (blk_cell BK189.out 2).trans rfl; have hfz25_0 := blk_frozen BK189.out 0; have hfz25_1 := blk_frozen BK189.out 1; have hfz25_2 := blk_frozen BK189.out 2; have hcz26_0 : w23.cell? ⟨gb190, 0, none⟩ = some (.string a1_0) := (blk_cell BK190.out 0).trans rfl; have hcz26_1 : w23.cell? ⟨gb190, 1, none⟩ = some (.slice A1_1 l1_1.length c1_1) := (blk_cell BK190.out 1).trans rfl; have hcz26_2 : w23.cell? ⟨gb190, 2, none⟩ = some (.int .i64 a1_2) := (blk_cell BK190.out 2).trans rfl; have hfz26_0 := blk_frozen BK190.out 0; have hfz26_1 := blk_frozen BK190.out 1; have hfz26_2 := blk_frozen BK190.out 2))
    go_ret
    exact ⟨by first | rfl | (simp [errW_none, errW_some] <;> rfl) | (simp [*, errW_none, errW_some] <;> rfl), by repeat (first | (with_reducible first | exact HB.out | apply below_alloc | apply pw_below_drewN | apply below_drew1 | refine below_set ?_ GE189.out | refine below_set ?_ GE190.out) | exact HB.out)⟩

/-! ### laws_eqBindS: function 17 -/
def laws_eqBindS.l0 : Nat → List (S66) → List (S66) → Int → Option (Bool)
  | 0, _, _, _ => none
  | k + 1, x0, x1, x5 => if x5 < (x0.length : Int) then (if 0 ≤ x5 then (if x5 < (x1.length : Int) then ((laws_eqBind.f k ((rd_T66 x0 x5).f0) ((rd_T66 x0 x5).f1) ((rd_T66 x0 x5).f2) ((rd_T66 x1 x5).f0) ((rd_T66 x1 x5).f1) ((rd_T66 x1 x5).f2)).bind fun t194 => (if t194 = true then (laws_eqBindS.l0 k x0 x1 (wrap64 (x5 + 1))) else (some false))) else (none)) else (none)) else (some true)
def laws_eqBindS.f (k : Nat) (l0 : List (S66)) (l1 : List (S66)) : Option (Bool) := if (l0.length : Int) = (l1.length : Int) then (laws_eqBindS.l0 k l0 l1 0) else (some false)
theorem laws_eqBindS.mono_l : ∀ k, (∀ y0 y1 y2, LeO (laws_eqBindS.l0 k y0 y1 y2) (laws_eqBindS.l0 (k + 1) y0 y1 y2))
  | 0 => fun _ _ _ r h => by simp [laws_eqBindS.l0] at h
  | k + 1 => by
    have ih0 := laws_eqBindS.mono_l k
    · intro y0 y1 y2
      unfold laws_eqBindS.l0
      repeat' first
      | (with_reducible exact ih0 _ _ _)
      | (with_reducible exact laws_eqBind.mono _ _ _ _ _ _ _)
      | (with_reducible exact LeO.refl _)
      | (with_reducible exact LeO.none _)
      | (with_reducible refine LeO.ite ?_ ?_)
      | (with_reducible refine LeO.bind ?_ (fun _ => ?_))
      | exact ih0 _ _ _
      | exact laws_eqBind.mono _ _ _ _ _ _ _
      | exact LeO.none _
      | refine LeO.ite ?_ ?_
      | refine LeO.bind ?_ (fun _ => ?_)
theorem laws_eqBindS.mono : ∀ a0 a1 k, LeO (laws_eqBindS.f k a0 a1) (laws_eqBindS.f (k + 1) a0 a1) := by
  intro a0 a1 k
  have ih0 := laws_eqBindS.mono_l k
  unfold laws_eqBindS.f
  repeat' first
      | (with_reducible exact ih0 _ _ _)
      | (with_reducible exact laws_eqBind.mono _ _ _ _ _ _ _)
      | (with_reducible exact LeO.refl _)
      | (with_reducible exact LeO.none _)
      | (with_reducible refine LeO.ite ?_ ?_)
      | (with_reducible refine LeO.bind ?_ (fun _ => ?_))
      | exact ih0 _ _ _
      | exact laws_eqBind.mono _ _ _ _ _ _ _
      | exact LeO.none _
      | refine LeO.ite ?_ ?_
      | refine LeO.bind ?_ (fun _ => ?_)
def laws_eqBindS.T6 : Bool × List (List Nat × List Nat) := (true, [([], []), ([], []), ([0, 1], [0, 1]), ([2], [2]), ([], []), ([], []), ([4, 5], [4, 5]), ([6], [6]), ([3, 7], [3, 7]), ([8], [8])])
def laws_eqBindS.B6 : List Nat := [0, 0, 3, 7, 0, 0, 48, 112, 255, 511]
theorem laws_eqBindS.tab6 : rtab .any (opsOf Try.f17 6) = laws_eqBindS.T6 := by kernel_rfl
theorem laws_eqBindS.bits6 : waitsOk laws_eqBindS.T6.2 laws_eqBindS.B6 = true := by kernel_rfl
set_option maxHeartbeats 8000000 in
set_option maxRecDepth 100000 in
theorem laws_eqBindS.calls (k : Nat) (A0 : Option Addr) (c0 : Nat) (l0 : List (S66)) (A1 : Option Addr) (c1 : Nat) (l1 : List (S66)) (r : Bool) (w : World) (hr0 : Kd.C k66 w A0 l0.length l0) (hc0 : l0.length ≤ c0) (hr1 : Kd.C k66 w A1 l1.length l1) (hc1 : l1.length ≤ c1) (h : laws_eqBindS.f k l0 l1 = some r) :
    Calls Try.prog 17 #[.slice A0 l0.length c0, .slice A1 l1.length c1] w fun e w' => e = .returned (.bool r) ∧ Below w.heap.size w w' := by
  have hu66 := Try.underlying66
  have HR0 := Aside0.mk hr0
  have HC0 := Aside0.mk hc0
  clear hr0 hc0
  have HR1 := Aside0.mk hr1
  have HC1 := Aside0.mk hc1
  clear hr1 hc1
  have HB := Aside0.mk (Below.refl w.heap.size w)
  have H : (if (l0.length : Int) = (l1.length : Int) then (laws_eqBindS.l0 k l0 l1 0) else (some false)) = some r := h
  clear h
  by_cases c3 : (l0.length : Int) = (l1.length : Int)
  · rw [if_pos c3] at H
    have c3b0 : ((l0.length : Int) == (l1.length : Int)) = true := beq_iff_eq.mpr c3
    have c3b1 : ((l0.length : Int) != (l1.length : Int)) = false := bne_eq_false_iff_eq.mpr c3
    have c3b2 : (l0.length == l1.length) = true := by first | simpa using c3 | (simp at c3 ⊢; omega)
    clear c3
    have H' := Aside0.mk H
    clear H
    go_enter Try.func17, Try.ntmps17
    go_wp2
    go_loopg [5] k (fun kq v5 w' => ∃ (x5_1 : Int), v5 = .int .i64 x5_1 ∧ Aside0 (laws_eqBindS.l0 kq l0 l1 x5_1 = some r) ∧ Aside0 (kq ≤ k) ∧ Aside0 (Below w.heap.size w w'))
    case atStart => exact ⟨(0), (by first | rfl | (simp; done) | (simp [*]; done)), H', ⟨Nat.le_refl _⟩, ⟨by repeat (first | (with_reducible first | exact HB.out | apply below_alloc | apply pw_below_drewN | apply below_drew1) | exact HB.out)⟩⟩
    case round =>
      clear H'
      try clear c1
      try clear p2
      try clear c3
      try clear c3b0
      try clear c3b1
      try clear c3b2
      obtain ⟨x5_1, rfl, HA, HK1, HB⟩ := hrel
      cases gk with
      | zero => exact absurd HA.out (by simp [laws_eqBindS.l0])
      | succ k1 =>
        have H := HA.out
        clear HA
        simp only [laws_eqBindS.l0] at H
        by_cases c4 : x5_1 < (l0.length : Int)
        · rw [if_pos c4] at H
          have c4b0 : decide (x5_1 < (l0.length : Int)) = true := decide_eq_true c4
          clear c4
          by_cases c5 : 0 ≤ x5_1
          · rw [if_pos c5] at H
            have c5b0 : decide (0 ≤ x5_1) = true := decide_eq_true c5
            clear c5
            by_cases c6 : x5_1 < (l1.length : Int)
            · rw [if_pos c6] at H
              have c6b0 : decide (x5_1 < (l1.length : Int)) = true := decide_eq_true c6
              clear c6
              replace H := Option.bind_eq_some_iff.mp H
              obtain ⟨t194, A70, H⟩ := H
              replace H : (if t194 = true then (laws_eqBindS.l0 k1 l0 l1 (wrap64 (x5_1 + 1))) else (some false)) = some r := H
              have A7 := Aside0.mk A70
              clear A70
              by_cases c8 : t194 = true
              · subst c8
                have H1 : (laws_eqBindS.l0 k1 l0 l1 (wrap64 (x5_1 + 1))) = some r := by rw [if_pos rfl] at H; exact H
                clear H
                have H := H1
                clear H1
                have H' := Aside0.mk H
                clear H
                try go_wp2
                have n0_ := Aside0.mk (below_drew1 HB.out)
                clear HB
                have HB := n0_
                clear n0_
                have p192 : 0 ≤ (x5_1 : Int) := of_decide_eq_true (by first | (with_reducible assumption) | assumption)
                have q192 : x5_1 < (l0.length : Int) := of_decide_eq_true (by first | (with_reducible assumption) | assumption)
                obtain ⟨ad192, A192_1, c192_1, e192, hx192_0, hx192_1, hx192_2, hl192_1, hi192_1⟩ := at_T66 HR0.out x5_1 p192 q192
                have hw192_2 := hx192_2
                have hw192_1 := hx192_1
                have hw192_0 := hx192_0
                cases e192
                replace hx192_0 := (HB.out.cell (World.block_lt_of_cell? w _ hx192_0)).trans hx192_0
                replace hx192_1 := (HB.out.cell (World.block_lt_of_cell? w _ hx192_1)).trans hx192_1
                replace hx192_2 := (HB.out.cell (World.block_lt_of_cell? w _ hx192_2)).trans hx192_2
                have HR192_1 := Aside0.mk hi192_1
                have HC192_1 := Aside0.mk hl192_1
                clear hi192_1 hl192_1
                replace p192 := eq_true p192
                replace q192 := eq_true q192
                have p193 : 0 ≤ (x5_1 : Int) := of_decide_eq_true (by first | (with_reducible assumption) | assumption)
                have q193 : x5_1 < (l1.length : Int) := of_decide_eq_true (by first | (with_reducible assumption) | assumption)
                obtain ⟨ad193, A193_1, c193_1, e193, hx193_0, hx193_1, hx193_2, hl193_1, hi193_1⟩ := at_T66 HR1.out x5_1 p193 q193
                have hw193_2 := hx193_2
                have hw193_1 := hx193_1
                have hw193_0 := hx193_0
                cases e193
                replace hx193_0 := (HB.out.cell (World.block_lt_of_cell? w _ hx193_0)).trans hx193_0
                replace hx193_1 := (HB.out.cell (World.block_lt_of_cell? w _ hx193_1)).trans hx193_1
                replace hx193_2 := (HB.out.cell (World.block_lt_of_cell? w _ hx193_2)).trans hx193_2
                have HR193_1 := Aside0.mk hi193_1
                have HC193_1 := Aside0.mk hl193_1
                clear hi193_1 hl193_1
                replace p193 := eq_true p193
                replace q193 := eq_true q193
                refine start_ (n := 10) (S := fun w' => w'.cell? (ad192.add ((x5_1).toNat * 3)) = some (.string ((rd_T66 l0 x5_1).f0)) ∧ w'.cell? ⟨(ad192.add ((x5_1).toNat * 3)).block, (ad192.add ((x5_1).toNat * 3)).off + 1, none⟩ = some (.slice A192_1 ((rd_T66 l0 x5_1).f1).length c192_1) ∧ w'.cell? ⟨(ad192.add ((x5_1).toNat * 3)).block, (ad192.add ((x5_1).toNat * 3)).off + 2, none⟩ = some (.int .i64 ((rd_T66 l0 x5_1).f2)) ∧ w'.cell? (ad193.add ((x5_1).toNat * 3)) = some (.string ((rd_T66 l1 x5_1).f0)) ∧ w'.cell? ⟨(ad193.add ((x5_1).toNat * 3)).block, (ad193.add ((x5_1).toNat * 3)).off + 1, none⟩ = some (.slice A193_1 ((rd_T66 l1 x5_1).f1).length c193_1) ∧ w'.cell? ⟨(ad193.add ((x5_1).toNat * 3)).block, (ad193.add ((x5_1).toNat * 3)).off + 2, none⟩ = some (.int .i64 ((rd_T66 l1 x5_1).f2))) (ds := []) #[false, false, false, false, false, false, false, false, false, false] (by kernel_rfl) rfl rfl ⟨((HB.out.cell (World.block_lt_of_cell? w _ hw192_0)).trans hw192_0), ((HB.out.cell (World.block_lt_of_cell? w _ hw192_1)).trans hw192_1), ((HB.out.cell (World.block_lt_of_cell? w _ hw192_2)).trans hw192_2), ((HB.out.cell (World.block_lt_of_cell? w _ hw193_0)).trans hw193_0), ((HB.out.cell (World.block_lt_of_cell? w _ hw193_1)).trans hw193_1), ((HB.out.cell (World.block_lt_of_cell? w _ hw193_2)).trans hw193_2)⟩ (fun hHeld => ?_); refine with_tabW laws_eqBindS.tab6 laws_eqBindS.bits6 (fun HT_ HW_ => ?_)
                generalize wr.drew = w9 at HB HR192_1 HR193_1 hx192_0 hx192_1 hx192_2 hx193_0 hx193_1 hx193_2 hHeld ⊢
                refine pure_ (i := 0) (N := some 17) (v := ?_) (a' := ?_) #[true, false, false, false, false, false, false, false, false, false] rfl rfl (any_of HT_.out (by kernel_rfl)) (fun _ _ _ h => h) (Or.inl ⟨by rfl, ?_⟩) ?_ ?_
                rotate_left
                · intro w'
                  go_simp
                  with_reducible rfl
                rotate_left
                · simp only [Act.put, List.setIfInBounds_toArray, List.set_cons_zero, List.set_cons_succ, i64_w, i32_w]
                  rfl
                refine pure_ (i := 1) (N := some 18) (v := ?_) (a' := ?_) #[true, true, false, false, false, false, false, false, false, false] rfl rfl (any_of HT_.out (by kernel_rfl)) (fun _ _ _ h => h) (Or.inl ⟨by rfl, ?_⟩) ?_ ?_
                rotate_left
                · intro w'
                  go_simp
                  with_reducible rfl
                rotate_left
                · simp only [Act.put, List.setIfInBounds_toArray, List.set_cons_zero, List.set_cons_succ, i64_w, i32_w]
                  rfl
                refine pure_ (i := 2) (N := some 19) (v := ?_) (a' := ?_) #[true, true, true, false, false, false, false, false, false, false] rfl rfl (any_of HT_.out (by kernel_rfl)) (fun _ _ _ h => h) (Or.inl ⟨by rfl, ?_⟩) ?_ ?_
                rotate_left
                · intro w'
                  go_simp
                  with_reducible rfl
                rotate_left
                · simp only [Act.put, List.setIfInBounds_toArray, List.set_cons_zero, List.set_cons_succ, i64_w, i32_w]
                  rfl
                refine pure_ (i := 4) (N := some 21) (v := ?_) (a' := ?_) #[true, true, true, false, true, false, false, false, false, false] rfl rfl (any_of HT_.out (by kernel_rfl)) (fun _ _ _ h => h) (Or.inl ⟨by rfl, ?_⟩) ?_ ?_
                rotate_left
                · intro w'
                  go_simp
                  with_reducible rfl
                rotate_left
                · simp only [Act.put, List.setIfInBounds_toArray, List.set_cons_zero, List.set_cons_succ, i64_w, i32_w]
                  rfl
                refine pure_ (i := 5) (N := some 22) (v := ?_) (a' := ?_) #[true, true, true, false, true, true, false, false, false, false] rfl rfl (any_of HT_.out (by kernel_rfl)) (fun _ _ _ h => h) (Or.inl ⟨by rfl, ?_⟩) ?_ ?_
                rotate_left
                · intro w'
                  go_simp
                  with_reducible rfl
                rotate_left
                · simp only [Act.put, List.setIfInBounds_toArray, List.set_cons_zero, List.set_cons_succ, i64_w, i32_w]
                  rfl
                refine pure_ (i := 6) (N := some 23) (v := ?_) (a' := ?_) #[true, true, true, false, true, true, true, false, false, false] rfl rfl (any_of HT_.out (by kernel_rfl)) (fun _ _ _ h => h) (Or.inl ⟨by rfl, ?_⟩) ?_ ?_
                rotate_left
                · intro w'
                  go_simp
                  with_reducible rfl
                rotate_left
                · simp only [Act.put, List.setIfInBounds_toArray, List.set_cons_zero, List.set_cons_succ, i64_w, i32_w]
                  rfl
                refine take_ (i := 3) (N := some 20) (v := ?_) (a' := ?_) #[true, true, true, true, true, true, true, false, false, false] rfl rfl (take_ofW HT_.out HW_.out (by kernel_rfl)) (fun _ _ _ h => h) (Or.inl ⟨by rfl, ?_⟩) hHeld ?_ ?_
                rotate_left
                · rintro w' ⟨s0, s1, s2, s3, s4, s5⟩
                  go_simp
                  with_reducible rfl
                rotate_left
                · simp only [Act.put, List.setIfInBounds_toArray, List.set_cons_zero, List.set_cons_succ, i64_w, i32_w]
                  rfl
                refine take_ (i := 7) (N := some 24) (v := ?_) (a' := ?_) #[true, true, true, true, true, true, true, true, false, false] rfl rfl (take_ofW HT_.out HW_.out (by kernel_rfl)) (fun _ _ _ h => h) (Or.inl ⟨by rfl, ?_⟩) hHeld ?_ ?_
                rotate_left
                · rintro w' ⟨s0, s1, s2, s3, s4, s5⟩
                  go_simp
                  with_reducible rfl
                rotate_left
                · simp only [Act.put, List.setIfInBounds_toArray, List.set_cons_zero, List.set_cons_succ, i64_w, i32_w]
                  rfl
                refine one_ (i := 8) (N := some 25) #[true, true, true, true, true, true, true, true, true, false] rfl rfl (one_of HT_.out (by kernel_rfl)) (by decide) (fun K hK => ?_)
                refine goes_ Try.func53 (by kernel_rfl) rfl #[.agg #[.string ((rd_T66 l0 x5_1).f0), .slice A192_1 ((rd_T66 l0 x5_1).f1).length c192_1, .int .i64 ((rd_T66 l0 x5_1).f2)], .agg #[.string ((rd_T66 l1 x5_1).f0), .slice A193_1 ((rd_T66 l1 x5_1).f1).length c193_1, .int .i64 ((rd_T66 l1 x5_1).f2)]] (by rfl) rfl rfl (by (try simp only [List.map_toArray, List.map_cons, List.map_nil]); first | done | rfl | (simp only [List.length_drop, List.length_take]; rfl)) ?_
                with_reducible refine (laws_eqBind.calls k1 ((rd_T66 l0 x5_1).f0) _ _ ((rd_T66 l0 x5_1).f1) ((rd_T66 l0 x5_1).f2) ((rd_T66 l1 x5_1).f0) _ _ ((rd_T66 l1 x5_1).f1) ((rd_T66 l1 x5_1).f2) true _ ?side1 ?side2 ?side3 ?side4 A7.out).mono ?_
                (case side1 => repeat (first | exact (Kd.C_below HR192_1.out HB.out) | (with_reducible refine Kd.C_alloc ?_ _) | (with_reducible refine Kd.C_drewN ?_ _) | (with_reducible refine Kd.C_drew ?_)))
                (case side2 => exact HC192_1.out)
                (case side3 => repeat (first | exact (Kd.C_below HR193_1.out HB.out) | (with_reducible refine Kd.C_alloc ?_ _) | (with_reducible refine Kd.C_drewN ?_ _) | (with_reducible refine Kd.C_drew ?_)))
                (case side4 => exact HC193_1.out)
                rintro e w10 ⟨rfl, hb⟩
                refine ⟨_, rfl, ?_⟩
                have n0_ := Aside0.mk (below_step (by repeat (first | (with_reducible first | exact HB.out | apply below_alloc | apply pw_below_drewN | apply below_drew1) | exact HB.out)) hb)
                clear HB
                have HB := n0_
                clear n0_
                (try clear hb)
                (try clear hb2)
                (try clear hk)
                (try clear hi)
                refine hK.out _ _ ⟨((HB.out.cell (World.block_lt_of_cell? w _ hw192_0)).trans hw192_0), ((HB.out.cell (World.block_lt_of_cell? w _ hw192_1)).trans hw192_1), ((HB.out.cell (World.block_lt_of_cell? w _ hw192_2)).trans hw192_2), ((HB.out.cell (World.block_lt_of_cell? w _ hw193_0)).trans hw193_0), ((HB.out.cell (World.block_lt_of_cell? w _ hw193_1)).trans hw193_1), ((HB.out.cell (World.block_lt_of_cell? w _ hw193_2)).trans hw193_2)⟩ (fun hHeld => ?_)
                clear hK K
                refine norm_ (a' := ?_) ?_ ?_
                rotate_left
                · show Act.put _ (some 25) _ = _
                  simp only [Act.put, List.setIfInBounds_toArray, List.set_cons_zero, List.set_cons_succ, i64_w, i32_w]
                  rfl
                refine pure_ (i := 9) (N := some 26) (v := ?_) (a' := ?_) #[true, true, true, true, true, true, true, true, true, true] rfl rfl (any_of HT_.out (by kernel_rfl)) (fun _ _ _ h => h) (Or.inl ⟨by rfl, ?_⟩) ?_ ?_
                rotate_left
                · intro w'
                  go_simp
                  with_reducible rfl
                rotate_left
                · simp only [Act.put, List.setIfInBounds_toArray, List.set_cons_zero, List.set_cons_succ, i64_w, i32_w]
                  rfl
                refine done_ (done_of HT_.out (by kernel_rfl)) ?_
                try go_wp2
                go_roundg k1
                case measure => have := HK1.out; omega
                case rel => exact ⟨(wrap64 (x5_1 + 1)), (by first | rfl | (simp; done) | (simp [*]; done)), H', ⟨by have := HK1.out; omega⟩, ⟨by repeat (first | (with_reducible first | exact HB.out | apply below_alloc | apply pw_below_drewN | apply below_drew1) | exact HB.out)⟩⟩
              · replace c8 := Bool.eq_false_iff.mpr c8
                subst c8
                have H1 : (some false) = some r := by rw [if_neg (show ¬ (false = true) by decide)] at H; exact H
                clear H
                have H := H1
                clear H1
                obtain rfl := Option.some.inj H
                try go_wp2
                have n0_ := Aside0.mk (below_drew1 HB.out)
                clear HB
                have HB := n0_
                clear n0_
                have p192 : 0 ≤ (x5_1 : Int) := of_decide_eq_true (by first | (with_reducible assumption) | assumption)
                have q192 : x5_1 < (l0.length : Int) := of_decide_eq_true (by first | (with_reducible assumption) | assumption)
                obtain ⟨ad192, A192_1, c192_1, e192, hx192_0, hx192_1, hx192_2, hl192_1, hi192_1⟩ := at_T66 HR0.out x5_1 p192 q192
                have hw192_2 := hx192_2
                have hw192_1 := hx192_1
                have hw192_0 := hx192_0
                cases e192
                replace hx192_0 := (HB.out.cell (World.block_lt_of_cell? w _ hx192_0)).trans hx192_0
                replace hx192_1 := (HB.out.cell (World.block_lt_of_cell? w _ hx192_1)).trans hx192_1
                replace hx192_2 := (HB.out.cell (World.block_lt_of_cell? w _ hx192_2)).trans hx192_2
                have HR192_1 := Aside0.mk hi192_1
                have HC192_1 := Aside0.mk hl192_1
                clear hi192_1 hl192_1
                replace p192 := eq_true p192
                replace q192 := eq_true q192
                have p193 : 0 ≤ (x5_1 : Int) := of_decide_eq_true (by first | (with_reducible assumption) | assumption)
                have q193 : x5_1 < (l1.length : Int) := of_decide_eq_true (by first | (with_reducible assumption) | assumption)
                obtain ⟨ad193, A193_1, c193_1, e193, hx193_0, hx193_1, hx193_2, hl193_1, hi193_1⟩ := at_T66 HR1.out x5_1 p193 q193
                have hw193_2 := hx193_2
                have hw193_1 := hx193_1
                have hw193_0 := hx193_0
                cases e193
                replace hx193_0 := (HB.out.cell (World.block_lt_of_cell? w _ hx193_0)).trans hx193_0
                replace hx193_1 := (HB.out.cell (World.block_lt_of_cell? w _ hx193_1)).trans hx193_1
                replace hx193_2 := (HB.out.cell (World.block_lt_of_cell? w _ hx193_2)).trans hx193_2
                have HR193_1 := Aside0.mk hi193_1
                have HC193_1 := Aside0.mk hl193_1
                clear hi193_1 hl193_1
                replace p193 := eq_true p193
                replace q193 := eq_true q193
                refine start_ (n := 10) (S := fun w' => w'.cell? (ad192.add ((x5_1).toNat * 3)) = some (.string ((rd_T66 l0 x5_1).f0)) ∧ w'.cell? ⟨(ad192.add ((x5_1).toNat * 3)).block, (ad192.add ((x5_1).toNat * 3)).off + 1, none⟩ = some (.slice A192_1 ((rd_T66 l0 x5_1).f1).length c192_1) ∧ w'.cell? ⟨(ad192.add ((x5_1).toNat * 3)).block, (ad192.add ((x5_1).toNat * 3)).off + 2, none⟩ = some (.int .i64 ((rd_T66 l0 x5_1).f2)) ∧ w'.cell? (ad193.add ((x5_1).toNat * 3)) = some (.string ((rd_T66 l1 x5_1).f0)) ∧ w'.cell? ⟨(ad193.add ((x5_1).toNat * 3)).block, (ad193.add ((x5_1).toNat * 3)).off + 1, none⟩ = some (.slice A193_1 ((rd_T66 l1 x5_1).f1).length c193_1) ∧ w'.cell? ⟨(ad193.add ((x5_1).toNat * 3)).block, (ad193.add ((x5_1).toNat * 3)).off + 2, none⟩ = some (.int .i64 ((rd_T66 l1 x5_1).f2))) (ds := []) #[false, false, false, false, false, false, false, false, false, false] (by kernel_rfl) rfl rfl ⟨((HB.out.cell (World.block_lt_of_cell? w _ hw192_0)).trans hw192_0), ((HB.out.cell (World.block_lt_of_cell? w _ hw192_1)).trans hw192_1), ((HB.out.cell (World.block_lt_of_cell? w _ hw192_2)).trans hw192_2), ((HB.out.cell (World.block_lt_of_cell? w _ hw193_0)).trans hw193_0), ((HB.out.cell (World.block_lt_of_cell? w _ hw193_1)).trans hw193_1), ((HB.out.cell (World.block_lt_of_cell? w _ hw193_2)).trans hw193_2)⟩ (fun hHeld => ?_); refine with_tabW laws_eqBindS.tab6 laws_eqBindS.bits6 (fun HT_ HW_ => ?_)
                generalize wr.drew = w11 at HB HR192_1 HR193_1 hx192_0 hx192_1 hx192_2 hx193_0 hx193_1 hx193_2 hHeld ⊢
                refine pure_ (i := 0) (N := some 17) (v := ?_) (a' := ?_) #[true, false, false, false, false, false, false, false, false, false] rfl rfl (any_of HT_.out (by kernel_rfl)) (fun _ _ _ h => h) (Or.inl ⟨by rfl, ?_⟩) ?_ ?_
                rotate_left
                · intro w'
                  go_simp
                  with_reducible rfl
                rotate_left
                · simp only [Act.put, List.setIfInBounds_toArray, List.set_cons_zero, List.set_cons_succ, i64_w, i32_w]
                  rfl
                refine pure_ (i := 1) (N := some 18) (v := ?_) (a' := ?_) #[true, true, false, false, false, false, false, false, false, false] rfl rfl (any_of HT_.out (by kernel_rfl)) (fun _ _ _ h => h) (Or.inl ⟨by rfl, ?_⟩) ?_ ?_
                rotate_left
                · intro w'
                  go_simp
                  with_reducible rfl
                rotate_left
                · simp only [Act.put, List.setIfInBounds_toArray, List.set_cons_zero, List.set_cons_succ, i64_w, i32_w]
                  rfl
                refine pure_ (i := 2) (N := some 19) (v := ?_) (a' := ?_) #[true, true, true, false, false, false, false, false, false, false] rfl rfl (any_of HT_.out (by kernel_rfl)) (fun _ _ _ h => h) (Or.inl ⟨by rfl, ?_⟩) ?_ ?_
                rotate_left
                · intro w'
                  go_simp
                  with_reducible rfl
                rotate_left
                · simp only [Act.put, List.setIfInBounds_toArray, List.set_cons_zero, List.set_cons_succ, i64_w, i32_w]
                  rfl
                refine pure_ (i := 4) (N := some 21) (v := ?_) (a' := ?_) #[true, true, true, false, true, false, false, false, false, false] rfl rfl (any_of HT_.out (by kernel_rfl)) (fun _ _ _ h => h) (Or.inl ⟨by rfl, ?_⟩) ?_ ?_
                rotate_left
                · intro w'
                  go_simp
                  with_reducible rfl
                rotate_left
                · simp only [Act.put, List.setIfInBounds_toArray, List.set_cons_zero, List.set_cons_succ, i64_w, i32_w]
                  rfl
                refine pure_ (i := 5) (N := some 22) (v := ?_) (a' := ?_) #[true, true, true, false, true, true, false, false, false, false] rfl rfl (any_of HT_.out (by kernel_rfl)) (fun _ _ _ h => h) (Or.inl ⟨by rfl, ?_⟩) ?_ ?_
                rotate_left
                · intro w'
                  go_simp
                  with_reducible rfl
                rotate_left
                · simp only [Act.put, List.setIfInBounds_toArray, List.set_cons_zero, List.set_cons_succ, i64_w, i32_w]
                  rfl
                refine pure_ (i := 6) (N := some 23) (v := ?_) (a' := ?_) #[true, true, true, false, true, true, true, false, false, false] rfl rfl (any_of HT_.out (by kernel_rfl)) (fun _ _ _ h => h) (Or.inl ⟨by rfl, ?_⟩) ?_ ?_
                rotate_left
                · intro w'
                  go_simp
                  with_reducible rfl
                rotate_left
                · simp only [Act.put, List.setIfInBounds_toArray, List.set_cons_zero, List.set_cons_succ, i64_w, i32_w]
                  rfl
                refine take_ (i := 3) (N := some 20) (v := ?_) (a' := ?_) #[true, true, true, true, true, true, true, false, false, false] rfl rfl (take_ofW HT_.out HW_.out (by kernel_rfl)) (fun _ _ _ h => h) (Or.inl ⟨by rfl, ?_⟩) hHeld ?_ ?_
                rotate_left
                · rintro w' ⟨s0, s1, s2, s3, s4, s5⟩
                  go_simp
                  with_reducible rfl
                rotate_left
                · simp only [Act.put, List.setIfInBounds_toArray, List.set_cons_zero, List.set_cons_succ, i64_w, i32_w]
                  rfl
                refine take_ (i := 7) (N := some 24) (v := ?_) (a' := ?_) #[true, true, true, true, true, true, true, true, false, false] rfl rfl (take_ofW HT_.out HW_.out (by kernel_rfl)) (fun _ _ _ h => h) (Or.inl ⟨by rfl, ?_⟩) hHeld ?_ ?_
                rotate_left
                · rintro w' ⟨s0, s1, s2, s3, s4, s5⟩
                  go_simp
                  with_reducible rfl
                rotate_left
                · simp only [Act.put, List.setIfInBounds_toArray, List.set_cons_zero, List.set_cons_succ, i64_w, i32_w]
                  rfl
                refine one_ (i := 8) (N := some 25) #[true, true, true, true, true, true, true, true, true, false] rfl rfl (one_of HT_.out (by kernel_rfl)) (by decide) (fun K hK => ?_)
                refine goes_ Try.func53 (by kernel_rfl) rfl #[.agg #[.string ((rd_T66 l0 x5_1).f0), .slice A192_1 ((rd_T66 l0 x5_1).f1).length c192_1, .int .i64 ((rd_T66 l0 x5_1).f2)], .agg #[.string ((rd_T66 l1 x5_1).f0), .slice A193_1 ((rd_T66 l1 x5_1).f1).length c193_1, .int .i64 ((rd_T66 l1 x5_1).f2)]] (by rfl) rfl rfl (by (try simp only [List.map_toArray, List.map_cons, List.map_nil]); first | done | rfl | (simp only [List.length_drop, List.length_take]; rfl)) ?_
                with_reducible refine (laws_eqBind.calls k1 ((rd_T66 l0 x5_1).f0) _ _ ((rd_T66 l0 x5_1).f1) ((rd_T66 l0 x5_1).f2) ((rd_T66 l1 x5_1).f0) _ _ ((rd_T66 l1 x5_1).f1) ((rd_T66 l1 x5_1).f2) false _ ?side1 ?side2 ?side3 ?side4 A7.out).mono ?_
                (case side1 => repeat (first | exact (Kd.C_below HR192_1.out HB.out) | (with_reducible refine Kd.C_alloc ?_ _) | (with_reducible refine Kd.C_drewN ?_ _) | (with_reducible refine Kd.C_drew ?_)))
                (case side2 => exact HC192_1.out)
                (case side3 => repeat (first | exact (Kd.C_below HR193_1.out HB.out) | (with_reducible refine Kd.C_alloc ?_ _) | (with_reducible refine Kd.C_drewN ?_ _) | (with_reducible refine Kd.C_drew ?_)))
                (case side4 => exact HC193_1.out)
                rintro e w12 ⟨rfl, hb⟩
                refine ⟨_, rfl, ?_⟩
                have n0_ := Aside0.mk (below_step (by repeat (first | (with_reducible first | exact HB.out | apply below_alloc | apply pw_below_drewN | apply below_drew1) | exact HB.out)) hb)
                clear HB
                have HB := n0_
                clear n0_
                (try clear hb)
                (try clear hb2)
                (try clear hk)
                (try clear hi)
                refine hK.out _ _ ⟨((HB.out.cell (World.block_lt_of_cell? w _ hw192_0)).trans hw192_0), ((HB.out.cell (World.block_lt_of_cell? w _ hw192_1)).trans hw192_1), ((HB.out.cell (World.block_lt_of_cell? w _ hw192_2)).trans hw192_2), ((HB.out.cell (World.block_lt_of_cell? w _ hw193_0)).trans hw193_0), ((HB.out.cell (World.block_lt_of_cell? w _ hw193_1)).trans hw193_1), ((HB.out.cell (World.block_lt_of_cell? w _ hw193_2)).trans hw193_2)⟩ (fun hHeld => ?_)
                clear hK K
                refine norm_ (a' := ?_) ?_ ?_
                rotate_left
                · show Act.put _ (some 25) _ = _
                  simp only [Act.put, List.setIfInBounds_toArray, List.set_cons_zero, List.set_cons_succ, i64_w, i32_w]
                  rfl
                refine pure_ (i := 9) (N := some 26) (v := ?_) (a' := ?_) #[true, true, true, true, true, true, true, true, true, true] rfl rfl (any_of HT_.out (by kernel_rfl)) (fun _ _ _ h => h) (Or.inl ⟨by rfl, ?_⟩) ?_ ?_
                rotate_left
                · intro w'
                  go_simp
                  with_reducible rfl
                rotate_left
                · simp only [Act.put, List.setIfInBounds_toArray, List.set_cons_zero, List.set_cons_succ, i64_w, i32_w]
                  rfl
                refine done_ (done_of HT_.out (by kernel_rfl)) ?_
                try go_wp2
                go_ret
                exact ⟨by first | rfl | (simp [errW_none, errW_some] <;> rfl) | (simp [*, errW_none, errW_some] <;> rfl), by repeat (first | (with_reducible first | exact HB.out | apply below_alloc | apply pw_below_drewN | apply below_drew1) | exact HB.out)⟩
            · rw [if_neg c6] at H
              exact absurd H (by simp)
          · rw [if_neg c5] at H
            exact absurd H (by simp)
        · rw [if_neg c4] at H
          have c4b0 : decide (x5_1 < (l0.length : Int)) = false := decide_eq_false c4
          clear c4
          obtain rfl := Option.some.inj H
          go_wp2
          go_ret
          exact ⟨by first | rfl | (simp [errW_none, errW_some] <;> rfl) | (simp [*, errW_none, errW_some] <;> rfl), by repeat (first | (with_reducible first | exact HB.out | apply below_alloc | apply pw_below_drewN | apply below_drew1) | exact HB.out)⟩
  · rw [if_neg c3] at H
    have c3b0 : ((l0.length : Int) == (l1.length : Int)) = false := beq_eq_false_iff_ne.mpr c3
    have c3b1 : ((l0.length : Int) != (l1.length : Int)) = true := bne_iff_ne.mpr c3
    have c3b2 : (l0.length == l1.length) = false := by first | simpa using c3 | (simp at c3 ⊢; omega)
    obtain rfl := Option.some.inj H
    go_enter Try.func17, Try.ntmps17
    go_wp2
    go_ret
    exact ⟨by first | rfl | (simp [errW_none, errW_some] <;> rfl) | (simp [*, errW_none, errW_some] <;> rfl), by repeat (first | (with_reducible first | exact HB.out | apply below_alloc | apply pw_below_drewN | apply below_drew1) | exact HB.out)⟩

/-! ### laws_markIntS: function 21 -/
def laws_markIntS.l0 : Nat → List Int → Int → Int → Option (Int × List Int)
  | 0, _, _, _ => none
  | k + 1, x0, x1, x5 => if x5 < (x0.length : Int) then (if 0 ≤ x5 then (laws_markIntS.l0 k (x0.set (x5 : Int).toNat x1) (wrap64 (x1 + 1)) (wrap64 (x5 + 1))) else (none)) else (some (x1, x0))
def laws_markIntS.f (k : Nat) (l0 : List Int) (a1 : Int) : Option (Int × List Int) := laws_markIntS.l0 k l0 a1 0
theorem laws_markIntS.mono_l : ∀ k, (∀ y0 y1 y2, LeO (laws_markIntS.l0 k y0 y1 y2) (laws_markIntS.l0 (k + 1) y0 y1 y2))
  | 0 => fun _ _ _ r h => by simp [laws_markIntS.l0] at h
  | k + 1 => by
    have ih0 := laws_markIntS.mono_l k
    · intro y0 y1 y2
      unfold laws_markIntS.l0
      repeat' first
      | (with_reducible exact ih0 _ _ _)
      | (with_reducible exact LeO.refl _)
      | (with_reducible exact LeO.none _)
      | (with_reducible refine LeO.ite ?_ ?_)
      | (with_reducible refine LeO.bind ?_ (fun _ => ?_))
      | exact ih0 _ _ _
      | exact LeO.none _
      | refine LeO.ite ?_ ?_
      | refine LeO.bind ?_ (fun _ => ?_)
theorem laws_markIntS.mono : ∀ a0 a1 k, LeO (laws_markIntS.f k a0 a1) (laws_markIntS.f (k + 1) a0 a1) := by
  intro a0 a1 k
  have ih0 := laws_markIntS.mono_l k
  unfold laws_markIntS.f
  repeat' first
      | (with_reducible exact ih0 _ _ _)
      | (with_reducible exact LeO.refl _)
      | (with_reducible exact LeO.none _)
      | (with_reducible refine LeO.ite ?_ ?_)
      | (with_reducible refine LeO.bind ?_ (fun _ => ?_))
      | exact ih0 _ _ _
      | exact LeO.none _
      | refine LeO.ite ?_ ?_
      | refine LeO.bind ?_ (fun _ => ?_)
set_option maxHeartbeats 8000000 in
set_option maxRecDepth 100000 in
theorem laws_markIntS.calls (k : Nat) (P0_ : Nat → Prop) (u9000_ : Value) (l0 : List Int) (a1 : Int) (r1 : Int) (r2 : List Int) (w0 w : World) (hB : Below w0.heap.size w0 w) (ho0 : Kd.R (Kd.int .i64) 3 w w0.heap.size P0_ u9000_ l0) (h : laws_markIntS.f k l0 a1 = some (r1, r2)) :
    Calls Try.prog 21 #[u9000_, .int .i64 a1] w fun e w' => e = .returned (.int .i64 r1) ∧ Kd.R (Kd.int .i64) 3 w' w0.heap.size (fun k_ => (P0_ k_ ∨ w.heap.size ≤ k_)) u9000_ r2 ∧ Below w0.heap.size w0 w' ∧ Kept w w' (fun k_ => P0_ k_) := by
  have HO0 := Aside0.mk (show Kd.R (Kd.int .i64) 3 w w0.heap.size (fun k_ => (P0_ k_ ∨ w.heap.size ≤ k_)) u9000_ l0 from Kd.R_mono ho0 (fun k_ hk => (.inl hk)))
  have HK := Aside0.mk (Kept.refl w (fun k_ => P0_ k_))
  have HW0 := Aside0.mk hB.size
  have HB := Aside0.mk hB
  clear hB
  have H : (laws_markIntS.l0 k l0 a1 0) = some (r1, r2) := h
  clear h
  have H' := Aside0.mk H
  clear H
  go_enter Try.func21, Try.ntmps21
  go_wp2
  go_loopg [1, 5] k (fun kq v1 v5 w' => ∃ (x0_1 : List Int) (x1_1 : Int) (x5_1 : Int), v1 = .int .i64 x1_1 ∧ v5 = .int .i64 x5_1 ∧ Aside0 (laws_markIntS.l0 kq x0_1 x1_1 x5_1 = some (r1, r2)) ∧ Aside0 (kq ≤ k) ∧ Aside0 (Kd.R (Kd.int .i64) 3 w' w0.heap.size (fun k_ => (P0_ k_ ∨ w.heap.size ≤ k_)) u9000_ x0_1) ∧ Aside0 (Kept w w' (fun k_ => P0_ k_)) ∧ Aside0 (Below w0.heap.size w0 w'))
  case atStart => exact ⟨(l0), (a1), (0), (by first | rfl | (simp; done) | (simp [*]; done)), (by first | rfl | (simp; done) | (simp [*]; done)), H', ⟨Nat.le_refl _⟩, ⟨by (with_reducible repeat (first | apply Kd.R_alloc | apply Kd.R_drewN | apply Kd.R_drew)); exact HO0.out⟩, ⟨by repeat (first | (with_reducible first | exact HK.out | apply Kept.alloc | apply Kept.drewN | apply Kept.drew) | exact HK.out)⟩, ⟨by repeat (first | (with_reducible first | exact HB.out | apply below_alloc | apply pw_below_drewN | apply below_drew1) | exact HB.out)⟩⟩
  case round =>
    clear H'
    try clear c2
    try clear p2
    obtain ⟨x0_1, x1_1, x5_1, rfl, rfl, HA, HK1, HO_0, HK, HB⟩ := hrel
    cases gk with
    | zero => exact absurd HA.out (by simp [laws_markIntS.l0])
    | succ k1 =>
      have H := HA.out
      clear HA
      simp only [laws_markIntS.l0] at H
      by_cases c3 : x5_1 < (x0_1.length : Int)
      · rw [if_pos c3] at H
        have c3b0 : decide (x5_1 < (x0_1.length : Int)) = true := decide_eq_true c3
        clear c3
        by_cases c4 : 0 ≤ x5_1
        · rw [if_pos c4] at H
          have c4b0 : decide (0 ≤ x5_1) = true := decide_eq_true c4
          clear c4
          obtain ⟨y195, hy195⟩ : ∃ y_ : List Int, y_ = (x0_1.set (x5_1 : Int).toNat x1_1) := ⟨_, rfl⟩
          replace H : (laws_markIntS.l0 k1 y195 (wrap64 (x1_1 + 1)) (wrap64 (x5_1 + 1))) = some (r1, r2) := by first | (rw [hy195]; with_reducible exact H) | (have H2_ := (Option.bind_some _ _).symm.trans H; rw [hy195]; with_reducible exact H2_) | (have H2_ := (Option.bind_some _ _).symm.trans H; with_reducible exact H2_) | with_reducible exact H | (rw [hy195]; exact H) | exact H
          have Ny195 := Aside0.mk hy195
          clear hy195
          have H' := Aside0.mk H
          clear H
          obtain ⟨Ao6, co6, eo6⟩ := Kd.R_slice HO_0.out
          subst eo6
          have p5 : 0 ≤ (x5_1 : Int) := of_decide_eq_true (by first | (with_reducible assumption) | assumption)
          have q5 : (x5_1 : Int) < ((x0_1.length : Int) : Int) := of_decide_eq_true (by first | (with_reducible assumption) | assumption)
          obtain ⟨go5, co5, eo5, gb5, gl5, cl5, HG5⟩ := Kd.R_form HO_0.out (by omega)
          (first | cases eo5 | (injection eo5 with ea_ en_ ec_; (first | subst ea_ | (injection ea_ with ea_; subst ea_)); subst ec_; clear en_))
          have GB5 := Aside0.mk gb5
          have GG5 := Aside0.mk HG5
          clear gb5 gl5 HG5
          have HMgo5 := Aside0.mk (show (P0_ go5 ∨ w.heap.size ≤ go5) from (HO_0.out.1 _ rfl))
          obtain ⟨hx5_0, hf5_0⟩ := Kd.R_celln 0 HO_0.out (x5_1 : Int) p5 q5
          replace p5 := eq_true p5
          replace q5 := eq_true q5
          have HP7 := Kd.R_putg HO_0.out (x5_1 : Int) x1_1
          go_wp2_with (first | ((with_reducible refine gate_store (t := 3) (p := 15) rfl ?_); refine store_event (t := 3) (p := 15) (v := ?vo_w8) (w1 := (wr.setCell ⟨go5, (x5_1 : Int).toNat, none⟩ (.int .i64 x1_1))) ?hg ?ho ?hn ?hr ?_; (case ho => rfl); (case hg => rfl); (case hn => rfl); (case hr => first | (go_simp; done) | (go_simp; rfl)); intro w8 hw; have hg : wr.grownBy w8 (some go5) := (by rw [hw]; exact HP7.2); have hp_ : Kd.R (Kd.int .i64) 3 w8 w0.heap.size (fun k_ => (P0_ k_ ∨ w.heap.size ≤ k_)) (.slice (some ⟨go5, 0, none⟩) x0_1.length co6) y195 := (by rw [hw, Ny195.out]; exact HP7.1); clear HP7; have n0_ := Aside0.mk (hp_); have n1_ := Aside0.mk ((by rw [hw]; exact below_set (HB.out) GB5.out : Below w0.heap.size w0 w8)); have n2_ := Aside0.mk (Kept.of_grown (S := (fun k_ => P0_ k_)) hg (by repeat (first | (with_reducible first | exact HK.out | apply Kept.alloc | apply Kept.drewN | apply Kept.drew) | exact HK.out)) (fun k_ e_ => (HO_0.out.1 k_ e_))); clear HO_0; clear HB; clear HK; have HO_0 := n0_; have HB := n1_; have HK := n2_; clear n0_ n1_ n2_; clear hg hw hp_))
          go_roundg k1
          case measure => have := HK1.out; omega
          case rel => exact ⟨(y195), (wrap64 (x1_1 + 1)), (wrap64 (x5_1 + 1)), (by first | rfl | (simp; done) | (simp [*]; done)), (by first | rfl | (simp; done) | (simp [*]; done)), H', ⟨by have := HK1.out; omega⟩, ⟨by (with_reducible repeat (first | apply Kd.R_alloc | apply Kd.R_drewN | apply Kd.R_drew)); exact HO_0.out⟩, ⟨by repeat (first | (with_reducible first | exact HK.out | apply Kept.alloc | apply Kept.drewN | apply Kept.drew) | exact HK.out)⟩, ⟨by repeat (first | (with_reducible first | exact HB.out | apply below_alloc | apply pw_below_drewN | apply below_drew1) | exact HB.out)⟩⟩
        · rw [if_neg c4] at H
          exact absurd H (by simp)
      · rw [if_neg c3] at H
        have c3b0 : decide (x5_1 < (x0_1.length : Int)) = false := decide_eq_false c3
        clear c3
        simp only [Option.some.injEq, Prod.mk.injEq] at H
        obtain ⟨rfl, rfl⟩ := H
        obtain ⟨Ao9, co9, eo9⟩ := Kd.R_slice HO_0.out
        subst eo9
        go_wp2
        go_ret
        exact ⟨by first | rfl | (simp [errW_none, errW_some] <;> rfl) | (simp [*, errW_none, errW_some] <;> rfl), by (with_reducible repeat (first | apply Kd.R_alloc | apply Kd.R_drewN | apply Kd.R_drew)); exact HO_0.out, by repeat (first | (with_reducible first | exact HB.out | apply below_alloc | apply pw_below_drewN | apply below_drew1) | exact HB.out), by repeat (first | (with_reducible first | exact HK.out | apply Kept.alloc | apply Kept.drewN | apply Kept.drew) | exact HK.out)⟩

end Go.Proofs.Ytlklclebjeeaaaa.Q
end
section
namespace Go.Proofs.Ytlklclebjeeaaaa
open Go.RowKit Go.Proofs.YtlklclebjeeaaaaW.PrintWords
set_option linter.unusedVariables false
set_option linter.unusedSimpArgs false
def totB : List Bd → Nat
  | [] => 0
  | b :: l => b.f0.size + b.f1.length + totB l
theorem totB_mem {l : List Bd} {b : Bd} (h : b ∈ l) : b.f0.size + b.f1.length ≤ totB l := by
  induction l with
  | nil => cases h
  | cons a l ih =>
    rcases List.mem_cons.1 h with rfl | h
    · show _ ≤ b.f0.size + b.f1.length + totB l; omega
    · have := ih h
      show _ ≤ a.f0.size + a.f1.length + totB l; omega
theorem totB_drop {l : List Bd} {i : Nat} (h : i < l.length) : totB (l.drop i) = l[i].f0.size + l[i].f1.length + totB (l.drop (i + 1)) := by
  rw [List.drop_eq_getElem_cons h]; rfl
theorem smB_of {l : List Bd} (h : l.length + totB l ≤ 1048576) : SmB l :=
  ⟨by omega, fun b hb => by have := totB_mem hb; omega⟩
section
open Go.Proofs.Ytlklclebjeeaaaa.Q
theorem szB1 {b : Bd} (hb : BdSmall b) {L : Int} (h0 : 0 ≤ L) (h1 : L ≤ 1048576) : laws_szBind.f b.f0 b.f1 b.f2 L = some (szR L (b.f0.size + b.f1.length)) := by
  have hb1 := hb.1
  have hb2 := hb.2
  unfold laws_szBind.f laws_szIntS.f
  rw [Go.IntWalk.wrap64_in (L - (b.f0.size : Int)) ⟨by omega, by omega⟩]
  by_cases h2 : L - (b.f0.size : Int) < 0
  · rw [if_pos h2, szR_no (by omega)]
  · rw [if_neg h2, Go.IntWalk.wrap64_in (L - (b.f0.size : Int) - (b.f1.length : Int)) ⟨by omega, by omega⟩]
    by_cases h3 : L - (b.f0.size : Int) - (b.f1.length : Int) < 0
    · rw [if_pos h3, szR_no (by omega)]; rfl
    · rw [if_neg h3, szR_yes (by omega)]
      show (if L - (b.f0.size : Int) - (b.f1.length : Int) < 0 then some (-1) else some (L - (b.f0.size : Int) - (b.f1.length : Int))) = _
      rw [if_neg h3]
      congr 1
      omega
theorem ev_szB (l : List Bd) (hl : ∀ b, b ∈ l → BdSmall b) (hlen : l.length ≤ 9223372036854775807) (L : Int) (h0 : 0 ≤ L) (h1 : L ≤ 1048576) : Ev (fun k => laws_szBindS.f k l L) (szR L (l.length + totB l)) := by
  have key : l.length ≤ 1048576 → ∀ m i, i + m = l.length → ∀ L' : Int, 0 ≤ L' → L' ≤ 1048576 → Ev (fun k => laws_szBindS.l0 k l L' (i : Int)) (szR L' (totB (l.drop i))) := by
    intro hsm m
    induction m with
    | zero =>
      intro i hi L' h0 h1
      obtain rfl : i = l.length := by omega
      rw [List.drop_length]
      refine Ev.step (fun k => by rw [laws_szBindS.l0]) ?_
      refine Ev.neg (by omega) ?_
      rw [szR_yes (show ((totB [] : Nat) : Int) ≤ L' from by simp [totB]; omega)]
      exact Ev.some (by simp [totB])
    | succ m ih =>
      intro i hi L' h0 h1
      have hlt : i < l.length := by omega
      have hbs := hl _ (List.getElem_mem hlt)
      rw [totB_drop hlt]
      refine Ev.step (fun k => by rw [laws_szBindS.l0]) ?_
      refine Ev.pos (by omega) ?_
      refine Ev.pos (by omega) ?_
      rw [show rd_T63 l (i : Int) = l[i] from rdB hlt]
      refine Ev.bind (g := fun _ => _) (Ev.some (szB1 hbs h0 h1)) ?_
      by_cases hle : ((l[i].f0.size + l[i].f1.length : Nat) : Int) ≤ L'
      · rw [szR_yes hle]
        refine Ev.neg (by omega) ?_
        rw [wr1 _ (by omega), ← szR_step hle]
        exact ih (i + 1) (by omega) _ (by omega) (by omega)
      · rw [szR_no (by omega)]
        refine Ev.pos (by omega) ?_
        rw [szR_no (by omega)]
        exact Ev.now _
  simp only [laws_szBindS.f]
  rw [Go.IntWalk.wrap64_in (L - (l.length : Int)) ⟨by omega, by omega⟩]
  by_cases h2 : L - (l.length : Int) < 0
  · refine Ev.pos h2 ?_
    rw [szR_no (by omega)]
    exact Ev.now _
  · refine Ev.neg h2 ?_
    rw [← szR_step (by omega)]
    have := key (by omega) l.length 0 (by omega) (L - (l.length : Int)) (by omega) (by omega)
    rw [List.drop_zero] at this
    exact this
theorem set_fill {α : Type} (l : List α) (z : α) {i : Nat} (h : i < l.length) : (l.take i ++ List.replicate (l.length - i) z).set i l[i] = l.take (i + 1) ++ List.replicate (l.length - (i + 1)) z := by
  have e1 : List.replicate (l.length - i) z = z :: List.replicate (l.length - (i + 1)) z := by
    rw [show l.length - i = (l.length - (i + 1)) + 1 from by omega, List.replicate_succ]
  rw [e1, List.set_append_right _ _ (by simp; omega), List.length_take, Nat.min_eq_left (by omega), Nat.sub_self, List.take_succ_eq_append_getElem h, List.append_assoc]
  rfl
theorem ev_toI (l : List Int) (hl : l.length ≤ 2000000) : Ev (fun k => laws_toIntS.f k l) l := by
  simp only [laws_toIntS.f]
  refine Ev.pos (by omega) ?_
  refine Ev.pos (by omega) ?_
  obtain ⟨r, hp, hr⟩ := ev_loop (L := fun k (s : Int × List Int) => laws_toIntS.l0 k l s.2 s.1) (fun i s => s = ((i : Int), l.take i ++ List.replicate (l.length - i) 0)) l.length (· = l) (by
    rintro i s hi rfl
    refine ⟨((i + 1 : Nat), l.take (i + 1) ++ List.replicate (l.length - (i + 1)) 0), rfl, fun r hr => ?_⟩
    refine Ev.step (fun k => by rw [laws_toIntS.l0]) ?_
    refine Ev.pos (by simpa using hi) ?_
    refine Ev.pos (by simp) ?_
    refine Ev.pos (by simp; omega) ?_
    simp only
    rw [wr1 _ (by omega), rdI_ l i hi, Int.toNat_natCast, set_fill l 0 hi]
    exact hr) (by
    rintro s rfl
    refine ⟨l, rfl, ?_⟩
    refine Ev.step (fun k => by rw [laws_toIntS.l0]) ?_
    refine Ev.neg (by simp) ?_
    exact Ev.some (by simp)) (0, List.replicate l.length 0) (by simp)
  subst hp
  exact hr
theorem ev_toB1 (b : Bd) (h : b.f1.length ≤ 2000000) : Ev (fun k => laws_toBind.f k b.f0 b.f1 b.f2) (b.f0, b.f1, b.f2) := by
  simp only [laws_toBind.f]
  exact Ev.bind (ev_toI b.f1 h) (Ev.now _)
theorem ev_toB (l : List Bd) (hl : SmB l) : Ev (fun k => laws_toBindS.f k l) l := by
  have h0 := hl.1
  simp only [laws_toBindS.f]
  refine Ev.pos (by omega) ?_
  refine Ev.pos (by omega) ?_
  obtain ⟨r, hp, hr⟩ := ev_loop (L := fun k (s : Int × List Bd) => laws_toBindS.l0 k l s.2 s.1) (fun i s => s = ((i : Int), l.take i ++ List.replicate (l.length - i) zBd)) l.length (· = l) (by
    rintro i s hi rfl
    refine ⟨((i + 1 : Nat), l.take (i + 1) ++ List.replicate (l.length - (i + 1)) zBd), rfl, fun r hr => ?_⟩
    refine Ev.step (fun k => by rw [laws_toBindS.l0]) ?_
    refine Ev.pos (by simpa using hi) ?_
    refine Ev.pos (by simp) ?_
    simp only
    rw [show rd_T63 l (i : Int) = l[i] from rdB hi]
    refine Ev.bind (ev_toB1 l[i] (hl.2 _ (List.getElem_mem hi)).2) ?_
    refine Ev.pos (by simp; omega) ?_
    rw [wr1 _ (by omega), Int.toNat_natCast, show (⟨l[i].f0, l[i].f1, l[i].f2⟩ : Bd) = l[i] from rfl, set_fill l zBd hi]
    exact hr) (by
    rintro s rfl
    refine ⟨l, rfl, ?_⟩
    refine Ev.step (fun k => by rw [laws_toBindS.l0]) ?_
    refine Ev.neg (by simp) ?_
    exact Ev.some (by simp)) (0, List.replicate l.length zBd) (by simp)
  subst hp
  exact hr
theorem ev_eqI (l : List Int) (hl : l.length ≤ 2000000) : Ev (fun k => laws_eqIntS.f k l l) true := by
  simp only [laws_eqIntS.f]
  refine Ev.pos (by first | rfl | trivial) ?_
  obtain ⟨r, hp, hr⟩ := ev_loop (L := fun k (s : Int) => laws_eqIntS.l0 k l l s) (fun i s => s = (i : Int)) l.length (· = true) (by
    rintro i s hi rfl
    refine ⟨((i + 1 : Nat) : Int), rfl, fun r hr => ?_⟩
    refine Ev.step (fun k => by rw [laws_eqIntS.l0]) ?_
    refine Ev.pos (by omega) ?_
    refine Ev.pos (by omega) ?_
    refine Ev.pos (by omega) ?_
    refine Ev.pos (by first | rfl | trivial) ?_
    rw [wr1 _ (by omega)]
    exact hr) (by
    rintro s rfl
    refine ⟨true, rfl, ?_⟩
    refine Ev.step (fun k => by rw [laws_eqIntS.l0]) ?_
    refine Ev.neg (by omega) ?_
    exact Ev.now _) 0 rfl
  subst hp
  exact hr
theorem ev_eqB (l : List Bd) (hl : SmB l) : Ev (fun k => laws_eqBindS.f k l l) true := by
  have h0 := hl.1
  simp only [laws_eqBindS.f]
  refine Ev.pos (by first | rfl | trivial) ?_
  obtain ⟨r, hp, hr⟩ := ev_loop (L := fun k (s : Int) => laws_eqBindS.l0 k l l s) (fun i s => s = (i : Int)) l.length (· = true) (by
    rintro i s hi rfl
    refine ⟨((i + 1 : Nat) : Int), rfl, fun r hr => ?_⟩
    have he : Ev (fun k => laws_eqBind.f k l[i].f0 l[i].f1 l[i].f2 l[i].f0 l[i].f1 l[i].f2) true := by
      simp only [laws_eqBind.f]
      refine Ev.pos (by first | rfl | trivial) ?_
      refine Ev.bind (ev_eqI l[i].f1 (hl.2 _ (List.getElem_mem hi)).2) ?_
      refine Ev.pos (by first | rfl | trivial) ?_
      exact Ev.pos (by first | rfl | trivial) (Ev.now _)
    refine Ev.step (fun k => by rw [laws_eqBindS.l0]) ?_
    refine Ev.pos (by omega) ?_
    refine Ev.pos (by omega) ?_
    refine Ev.pos (by omega) ?_
    rw [rdB hi]
    refine Ev.bind he ?_
    refine Ev.pos (by first | rfl | trivial) ?_
    rw [wr1 _ (by omega)]
    exact hr) (by
    rintro s rfl
    refine ⟨true, rfl, ?_⟩
    refine Ev.step (fun k => by rw [laws_eqBindS.l0]) ?_
    refine Ev.neg (by omega) ?_
    exact Ev.now _) 0 rfl
  subst hp
  exact hr
end
/-! The contracts. -/
theorem szB_any (l : List Bd) (A : Option Addr) (c : Nat) (w : World) (hr : kB.C w A l.length l) (hc : l.length ≤ c) (hl : ∀ b, b ∈ l → BdSmall b) (hlen : l.length ≤ 9223372036854775807) :
    Calls Try.prog 10 #[.slice A l.length c, .int .i64 1048576] w (Ret w (.int .i64 (szR 1048576 (l.length + totB l)))) := by
  obtain ⟨k, hk⟩ := (ev_szB l hl hlen 1048576 (by omega) (by omega)).rounds
  exact Q.laws_szBindS.calls k A c l 1048576 _ w hr hc hk
def GetBs (w : World) (l : List Bd) (e : Ending) (w' : World) : Prop := ∃ A c, e = .returned (.slice A l.length c) ∧ l.length ≤ c ∧ kB.C w' A l.length l ∧ Below w.heap.size w w'
theorem toB_any (l : List Bd) (A : Option Addr) (c : Nat) (w : World) (hr : kB.C w A l.length l) (hc : l.length ≤ c) (hs : SmB l) : Calls Try.prog 13 #[.slice A l.length c] w (GetBs w l) := by
  obtain ⟨k, hk⟩ := (ev_toB l hs).rounds
  refine (Q.laws_toBindS.calls k A c l l w hr hc hk).mono ?_
  rintro e w' ⟨v, rfl, hS, hb⟩
  obtain ⟨B, d, rfl, hd, hC⟩ := Kd.S_reads hS
  exact ⟨B, d, rfl, hd, hC, hb⟩
theorem eqB_any (l : List Bd) (A : Option Addr) (c : Nat) (B : Option Addr) (d : Nat) (w : World) (hr : kB.C w A l.length l) (hc : l.length ≤ c) (hr2 : kB.C w B l.length l) (hc2 : l.length ≤ d) (hs : SmB l) :
    Calls Try.prog 17 #[.slice A l.length c, .slice B l.length d] w (Ret w (.bool true)) := by
  obtain ⟨k, hk⟩ := (ev_eqB l hs).rounds
  exact Q.laws_eqBindS.calls k A c l B d l _ w hr hc hr2 hc2 hk
end Go.Proofs.Ytlklclebjeeaaaa
end
section
namespace Go.Proofs.Ytlklclebjeeaaaa
open Go.RowKit Go.Proofs.YtlklclebjeeaaaaW.PrintWords Go.Proofs.YtlklclebjeeaaaaW.PrintLast Go.Proofs.YtlklclebjeeaaaaW.PrintMore
set_option linter.unusedVariables false
set_option linter.unusedSimpArgs false
def BdL (w : World) : List Bd → List Value → List Nat → Prop
  | [], inner, fp => inner = [] ∧ fp = []
  | b :: l, inner, fp => ∃ v1 rest fs, inner = [.string b.f0, v1, .int .i64 b.f2] ++ rest ∧ fp = obs v1 ++ fs ∧ w.ownsRow 0 3 1 v1 b.f1.length (encI b.f1) ∧ BdL w l rest fs
theorem BdL.len {w : World} : ∀ {l : List Bd} {inner : List Value} {fp : List Nat}, BdL w l inner fp → inner.length = l.length * 3
  | [], inner, fp, h => by rw [h.1]; rfl
  | b :: l, inner, fp, h => by
    obtain ⟨v1, rest, fs, rfl, rfl, _, hs⟩ := h
    have := BdL.len hs
    simp [this]; omega
theorem BdL.append {w : World} : ∀ {a b : List Bd} {ia ib : List Value} {fa fb : List Nat}, BdL w a ia fa → BdL w b ib fb → BdL w (a ++ b) (ia ++ ib) (fa ++ fb)
  | [], b, ia, ib, fa, fb, ha, hb => by obtain ⟨rfl, rfl⟩ := ha; exact hb
  | x :: a, b, ia, ib, fa, fb, ha, hb => by
    obtain ⟨v1, rest, fs, rfl, rfl, h1, hs⟩ := ha
    exact ⟨v1, rest ++ ib, fs ++ fb, by rw [List.append_assoc], by rw [List.append_assoc], h1, BdL.append hs hb⟩
theorem BdL.one {w : World} {b : Bd} {v1 : Value} (h : w.ownsRow 0 3 1 v1 b.f1.length (encI b.f1)) : BdL w [b] [.string b.f0, v1, .int .i64 b.f2] (obs v1) :=
  ⟨v1, [], [], rfl, by simp, h, rfl, rfl⟩
theorem BdL.move {w w1 : World} : ∀ {l : List Bd} {inner : List Value} {fp : List Nat}, BdL w l inner fp → (∀ b, b ∈ fp → w1.heap[b]? = w.heap[b]?) → BdL w1 l inner fp
  | [], inner, fp, h, _ => h
  | b :: l, inner, fp, h, hm => by
    obtain ⟨v1, rest, fs, rfl, rfl, h1, hs⟩ := h
    exact ⟨v1, rest, fs, rfl, rfl, own_move h1 (fun k hk => hm k (List.mem_append_left _ (obs_mem.2 hk))), BdL.move hs (fun k hk => hm k (List.mem_append_right _ hk))⟩
theorem BdL.lt {w : World} : ∀ {l : List Bd} {inner : List Value} {fp : List Nat}, BdL w l inner fp → ∀ b, b ∈ fp → b < w.heap.size
  | [], inner, fp, h, b, hb => by rw [h.2] at hb; cases hb
  | x :: l, inner, fp, h, b, hb => by
    obtain ⟨v1, rest, fs, rfl, rfl, h1, hs⟩ := h
    rcases List.mem_append.1 hb with q | q
    · exact own_lt h1 b (obs_mem.1 q)
    · exact BdL.lt hs b q
theorem BdL.later {w w1 : World} {l : List Bd} {inner : List Value} {fp : List Nat} (h : BdL w l inner fp) (hb : Below w.heap.size w w1) : BdL w1 l inner fp := h.move (fun b hb2 => hb.block b (h.lt b hb2))
abbrev set3 (w : World) (g o : Nat) (b0 b1 b2 : Value) : World := ((w.setCell ⟨g, o, none⟩ b0).setCell ⟨g, o + 1, none⟩ b1).setCell ⟨g, o + 2, none⟩ b2
theorem set3_far (w : World) (g o : Nat) (b0 b1 b2 : Value) (k : Nat) (h : k ≠ g) : (set3 w g o b0 b1 b2).heap[k]? = w.heap[k]? := by
  unfold set3
  rw [Below.heap_setCell _ _ _ _ h, Below.heap_setCell _ _ _ _ h, Below.heap_setCell _ _ _ _ h]
theorem set3_below {B : Nat} {a w : World} (h : Below B a w) {g : Nat} (hg : B ≤ g) (o : Nat) (b0 b1 b2 : Value) : Below B a (set3 w g o b0 b1 b2) :=
  ((h.setCell (p := ⟨g, _, none⟩) hg _).setCell (p := ⟨g, _, none⟩) hg _).setCell (p := ⟨g, _, none⟩) hg _
theorem row_put3 {w : World} {e g n cap i : Nat} {inner rest : List Value} {a0 a1 a2 : Value} (h : w.ownsRow 0 e 3 (.slice (some ⟨g, 0, none⟩) n cap) n (inner ++ ([a0, a1, a2] ++ rest))) (hl : inner.length = i * 3) :
    (w.cell? ⟨g, i * 3, none⟩ = some a0 ∧ w.cell? ⟨g, i * 3 + 1, none⟩ = some a1 ∧ w.cell? ⟨g, i * 3 + 2, none⟩ = some a2) ∧
    (∀ j, w.frozen? ⟨g, j, none⟩ = false) ∧
    ∀ b0 b1 b2, (set3 w g (i * 3) b0 b1 b2).ownsRow 0 e 3 (.slice (some ⟨g, 0, none⟩) n cap) n (inner ++ ([b0, b1, b2] ++ rest)) := by
  have hn : inner.length + 3 + rest.length = n * 3 := by have := h.1; simp at this; omega
  have hc : ∀ j, j < 3 → w.cell? ⟨g, i * 3 + j, none⟩ = ([a0, a1, a2] ++ rest)[j]? := by
    intro j hj
    rw [World.ownsRow.cellAt h _ (by omega), List.getElem?_append_right (by omega)]
    congr 1
    omega
  refine ⟨⟨hc 0 (by omega), hc 1 (by omega), hc 2 (by omega)⟩, fun j => World.ownsRow.frozenAt h j, fun b0 b1 b2 => ?_⟩
  have s0 := (World.ownsRow.stored h (i * 3) b0).1
  have s1 := (World.ownsRow.stored s0 (i * 3 + 1) b1).1
  have s2 := (World.ownsRow.stored s1 (i * 3 + 2) b2).1
  have e : ((((inner ++ ([a0, a1, a2] ++ rest)).set (i * 3) b0).set (i * 3 + 1) b1).set (i * 3 + 2) b2) = inner ++ ([b0, b1, b2] ++ rest) := by
    rw [← hl]
    simp [List.set_append]
  rw [e] at s2
  exact s2
abbrev zc3 : List Value := [.string ⟨#[]⟩, .slice none 0 0, .int .i64 0]
theorem infoBd : (Try.prog.info? 66).map (fun i => (i.zero, i.size, i.bytes)) = some (some (.agg #[(.string ⟨#[]⟩), (.slice none 0 0), (.int .i64 0)]), 3, 48) := by kernel_rfl
theorem zc3_raw (w : World) (base : Nat) (ok : Nat → Prop) : (Kd.raw 3).M w base ok zc3 (Value.agg #[(.string ⟨#[]⟩), (.slice none 0 0), (.int .i64 0)]).cells.toList := by
  refine ⟨rfl, rfl, fun u hu => ?_⟩
  have hu' : u ∈ zc3 := hu
  simp only [zc3, List.mem_cons, List.not_mem_nil, or_false] at hu'
  rcases hu' with rfl | rfl | rfl <;> rfl
theorem zeros3_of {w : World} {base : Nat} {ok : Nat → Prop} {v : Value} {n : Nat} (h : (Kd.raw 3).R 66 w base ok v (List.replicate n zc3)) : w.ownsRow 0 66 3 v n (List.replicate n zc3).flatten := by
  obtain ⟨_, inner, ho, hr⟩ := h
  rw [reps_flat (by omega) _ _ hr, List.length_replicate] at ho
  exact own_weaken ho (Nat.zero_le _)
/-- A list of bindings in new memory, from block B on. -/
def NewB (B : Nat) (w' : World) (l : List Bd) (v : Value) : Prop := ∃ inner fp, w'.ownsRow 0 66 3 v l.length inner ∧ BdL w' l inner fp ∧ (obs v ++ fp).Nodup ∧ ∀ b, b ∈ obs v ++ fp → B ≤ b
theorem toBind_any (b : Bd) (A : Option Addr) (c : Nat) (w : World) (hk : BdIn w b A c) (hs : b.f1.length ≤ 2000000) :
    Calls Try.prog 48 #[.agg #[.string b.f0, .slice A b.f1.length c, .int .i64 b.f2]] w (fun e w' => ∃ (E : Option Addr) (ec : Nat), e = .returned (.agg #[.string b.f0, .slice E b.f1.length ec, .int .i64 b.f2]) ∧ w'.ownsRow w.heap.size 3 1 (.slice E b.f1.length ec) b.f1.length (encI b.f1) ∧ Below w.heap.size w w') := by
  obtain ⟨k, hk2⟩ := (ev_toB1 b hs).rounds
  refine (Q.laws_toBind.calls k b.f0 A c b.f1 b.f2 _ _ _ w hk.g1 hk.l1 hk2).mono ?_
  rintro e w' ⟨v, rfl, hR, hb⟩
  obtain ⟨E, ec, rfl⟩ := Kd.R_slice hR
  exact ⟨E, ec, rfl, Kd.own_of_R hR, hb⟩
set_option maxHeartbeats 4000000 in
set_option maxRecDepth 100000 in
theorem toB_own (l : List Bd) (A : Option Addr) (c : Nat) (w : World) (hr : kB.C w A l.length l) (hc : l.length ≤ c) (hs : SmB l) :
    Calls Try.prog 13 #[.slice A l.length c] w (fun e w' => ∃ v, e = .returned v ∧ NewB w.heap.size w' l v ∧ Below w.heap.size w w') := by
  have hmax := hr.2.1
  have hlen := hs.1
  have HSM := Lib.hid hs
  clear hs
  go_enter Try.func13, Try.ntmps13
  go_wp2_with (first | ((with_reducible refine gate_dst (N := 7) rfl ?_); refine Kd.R_make (Kd.raw 3) _ 66 rfl (N := 7) rfl 30 _ _ rfl (l.length : Int) rfl rfl Try.underlying30 (.agg #[(.string ⟨#[]⟩), (.slice none 0 0), (.int .i64 0)]) 48 infoBd rfl (by decide) (by omega) zc3 (ok := fun _ => True) (okp := fun _ => True) (zc3_raw _ _ _) (fun _ hk => hk) trivial (by omega) (by omega) (Below.refl _ _) (Nat.le_refl _) ?_; intro v0 w0 ho0 hb0 hg0 hn0))
  rw [Int.toNat_natCast] at ho0
  have hz := zeros3_of ho0
  obtain ⟨bn, hbn1, hbn2⟩ := hn0
  go_loopg [4] l.length (fun kq v4 w' => ∃ i : Nat, i ≤ l.length ∧ l.length - i ≤ kq ∧ v4 = .int .i64 i ∧ Aside0 (∃ inner fp, w'.ownsRow 0 66 3 v0 l.length (inner ++ (List.replicate (l.length - i) zc3).flatten) ∧ BdL w' (l.take i) inner fp ∧ (obs v0 ++ fp).Nodup ∧ ∀ b, b ∈ obs v0 ++ fp → w.heap.size ≤ b) ∧ Aside0 (Below w.heap.size w w'))
  case atStart =>
    refine ⟨0, Nat.zero_le _, by omega, rfl, ⟨[], [], by simpa using hz, ⟨rfl, rfl⟩, by simp [obs, hbn1], by simpa [obs, hbn1] using hbn2⟩, ⟨hb0⟩⟩
  case round =>
    obtain ⟨i, hi, hg, rfl, HO, HW⟩ := hrel
    clear ho0 hz hb0 hg0 hbn1 hbn2
    by_cases hlt : i < l.length
    · obtain ⟨ad, A1, c1, e, g0, g1, g2, hk⟩ := bd_at (Kd.C_below hr HW.out) i hlt
      subst e
      have HC := Lib.hid (toBind_any l[i] A1 c1 wr hk (HSM.out.2 _ (List.getElem_mem hlt)).2)
      have q1 : (0 : Int) ≤ (i : Int) := by omega
      have q2 : (i : Int) < (l.length : Int) := by omega
      clear hk
      go_wp2_with fail
      refine HC.out.mono ?_
      rintro e w1 ⟨E, ec, rfl, HN, hb1⟩
      have HO2 := HO.out
      clear HO
      obtain ⟨inner, fp, ho, htr, hnd, hge⟩ := HO2
      rw [show l.length - i = (l.length - (i + 1)) + 1 from by omega, List.replicate_succ, List.flatten_cons] at ho
      obtain ⟨g, cap, e, hg0, hg1⟩ := ho.form (by omega)
      subst e
      have ho1 := own_move (w1 := w1) ho (fun k hk => by
        have : g = k := by simpa [Value.ownBlock] using hk
        subst this
        exact hb1.block g hg1)
      have htr1 := htr.later hb1
      have hl := htr.len
      rw [List.length_take, Nat.min_eq_left hi] at hl
      obtain ⟨⟨z0, z1, z2⟩, hfz, hput⟩ := row_put3 ho1 hl
      have y0 := hfz (i * 3)
      have y1 := hfz (i * 3 + 1)
      have y2 := hfz (i * 3 + 2)
      have hgw : w.heap.size ≤ g := hge g (by simp [obs, Value.ownBlock])
      have HF : Hid (∃ inner' fp', (set3 w1 g (i * 3) (.string l[i].f0) (.slice E l[i].f1.length ec) (.int .i64 l[i].f2)).ownsRow 0 66 3 (.slice (some ⟨g, 0, none⟩) l.length cap) l.length (inner' ++ (List.replicate (l.length - (i + 1)) zc3).flatten) ∧ BdL (set3 w1 g (i * 3) (.string l[i].f0) (.slice E l[i].f1.length ec) (.int .i64 l[i].f2)) (l.take (i + 1)) inner' fp' ∧ (obs (.slice (some ⟨g, 0, none⟩) l.length cap) ++ fp').Nodup ∧ ∀ b, b ∈ obs (.slice (some ⟨g, 0, none⟩) l.length cap) ++ fp' → w.heap.size ≤ b) := by
        have hkge : ∀ b, b ∈ obs (Value.slice E l[i].f1.length ec) → wr.heap.size ≤ b := fun b hb => by
          have h := HN
          rcases h with ⟨_, ⟨q, _⟩ | ⟨g5, cap5, cur5, q, hq, _⟩⟩
          · rw [q] at hb; simp [obs, Value.ownBlock] at hb
          · rw [q] at hb
            have : b = g5 := by simpa [obs, Value.ownBlock] using hb
            omega
        have hold : ∀ b, b ∈ obs (Value.slice (some ⟨g, 0, none⟩) l.length cap) ++ fp → b < wr.heap.size := by
          intro b hb
          rcases List.mem_append.1 hb with hb | hb
          · have : b = g := by simpa [obs, Value.ownBlock] using hb
            omega
          · exact htr.lt _ hb
        have hgf : ∀ b, b ∈ fp → b ≠ g := by
          intro b hb he
          subst he
          rw [show obs (Value.slice (some ⟨b, 0, none⟩) l.length cap) = [b] from rfl] at hnd
          simp [hb] at hnd
        have hgk : ∀ b, b ∈ obs (Value.slice E l[i].f1.length ec) → b ≠ g := by
          intro b hb he
          have := hkge b hb
          omega
        refine ⟨inner ++ [.string l[i].f0, .slice E l[i].f1.length ec, .int .i64 l[i].f2], fp ++ obs (.slice E l[i].f1.length ec), ?_, ?_, ?_, ?_⟩
        · rw [List.append_assoc]
          exact hput _ _ _
        · rw [List.take_succ_eq_append_getElem hlt]
          exact (htr1.move (fun b hb => set3_far _ _ _ _ _ _ b (hgf b hb))).append (BdL.one (own_move (own_weaken HN (Nat.zero_le _)) (fun b hb => set3_far _ _ _ _ _ _ b (hgk b (obs_mem.2 hb)))))
        · rw [← List.append_assoc, List.nodup_append]
          refine ⟨hnd, ?_, fun a ha b hb he => ?_⟩
          · unfold obs; cases (Value.slice E l[i].f1.length ec).ownBlock <;> simp
          · have h1 := hold a ha
            have h2 := hkge b hb
            omega
        · intro b hb
          rw [← List.append_assoc] at hb
          rcases List.mem_append.1 hb with hb | hb
          · exact hge b hb
          · have h2 := hkge b hb
            have := HW.out.size
            omega
      have HB := Lib.hid (set3_below (below_step HW.out hb1) hgw (i * 3) (.string l[i].f0) (.slice E l[i].f1.length ec) (.int .i64 l[i].f2))
      clear HN ho ho1 htr htr1 hnd hge hl hfz hput hgw hg0 hg1
      go_wp2_with fail
      go_roundg (l.length - (i + 1))
      case measure => omega
      case rel => exact ⟨i + 1, by omega, Nat.le_refl _, by go_num, ⟨HF.out⟩, ⟨HB.out⟩⟩
    · obtain rfl : i = l.length := by omega
      have HF : Hid (NewB w.heap.size wr l v0) := by
        obtain ⟨inner, fp, ho, htr, hnd, hge⟩ := HO.out
        rw [Nat.sub_self] at ho
        rw [List.take_length] at htr
        exact ⟨inner, fp, by simpa using ho, htr, hnd, hge⟩
      clear HO
      go_wp2_with fail
      go_ret
      exact ⟨_, rfl, HF.out, HW.out⟩
end Go.Proofs.Ytlklclebjeeaaaa
end
section
namespace Go.Proofs.Ytlklclebjeeaaaa
open Go.RowKit Go.Proofs.YtlklclebjeeaaaaW.PrintWords Go.Proofs.YtlklclebjeeaaaaW.PrintLast Go.Proofs.YtlklclebjeeaaaaW.PrintMore
set_option linter.unusedVariables false
set_option linter.unusedSimpArgs false
mutual
def Fm.cnt : Fm → Nat
  | ⟨_, _, _, sc, kids⟩ => sc.length + cntL kids
def cntL : List Fm → Nat
  | [] => 0
  | k :: ks => 3 + k.cnt + cntL ks
end
mutual
def Fm.mark : Fm → Int → Fm
  | ⟨a, b, c, sc, kids⟩, k => ⟨a, b, c, markI sc.length k, markL kids (k + sc.length)⟩
def markL : List Fm → Int → List Fm
  | [], _ => []
  | x :: xs, k => ⟨k, mt (k + 1), k + 2, (x.mark (k + 3)).f3, (x.mark (k + 3)).f4⟩ :: markL xs (k + 3 + x.cnt)
end
theorem Fm.cnt_eq (x : Fm) : x.cnt = x.f3.length + cntL x.f4 := by cases x; rfl
theorem Fm.mark_eq (x : Fm) (k : Int) : x.mark k = ⟨x.f0, x.f1, x.f2, markI x.f3.length k, markL x.f4 (k + x.f3.length)⟩ := by cases x; rfl
/-- The element of a row, marked from k on. -/
def Fm.mark3 (x : Fm) (k : Int) : Fm := ⟨k, mt (k + 1), k + 2, markI x.f3.length (k + 3), markL x.f4 (k + 3 + x.f3.length)⟩
theorem markL_cons (x : Fm) (xs : List Fm) (k : Int) : markL (x :: xs) k = x.mark3 k :: markL xs (k + 3 + x.cnt) := by
  rw [markL, Fm.mark_eq]
  rfl
theorem cntL_cons (x : Fm) (xs : List Fm) : cntL (x :: xs) = 3 + x.cnt + cntL xs := rfl
theorem cntL_append (a b : List Fm) : cntL (a ++ b) = cntL a + cntL b := by
  induction a with
  | nil => simp [cntL]
  | cons x a ih => rw [List.cons_append, cntL_cons, cntL_cons, ih]; omega
theorem markL_append (a b : List Fm) : ∀ k : Int, markL (a ++ b) k = markL a k ++ markL b (k + cntL a) := by
  induction a with
  | nil => intro k; simp [markL, cntL]
  | cons x a ih =>
    intro k
    rw [List.cons_append, markL_cons, markL_cons, ih, cntL_cons, List.cons_append]
    congr 3
    omega
theorem markL_length : ∀ (l : List Fm) (k : Int), (markL l k).length = l.length := by
  intro l
  induction l with
  | nil => intro k; rfl
  | cons x l ih => intro k; rw [markL_cons, List.length_cons, List.length_cons, ih]
theorem cntL_take (l : List Fm) (i : Nat) (h : i < l.length) : cntL (l.take (i + 1)) = cntL (l.take i) + (3 + l[i].cnt) := by
  rw [List.take_succ_eq_append_getElem h, cntL_append, cntL_cons]
  simp [cntL]
theorem markL_take (l : List Fm) (i : Nat) (h : i < l.length) (k : Int) : markL (l.take (i + 1)) k = markL (l.take i) k ++ [l[i].mark3 (k + cntL (l.take i))] := by
  rw [List.take_succ_eq_append_getElem h, markL_append, markL_cons]
  simp [markL]
theorem cntL_take_le (l : List Fm) (i : Nat) : cntL (l.take i) ≤ cntL l := by
  have h := cntL_append (l.take i) (l.drop i)
  rw [List.take_append_drop] at h
  omega
theorem Mk.cell {S : List Nat} {w w' : World} (h : Mk S w w') {g j : Nat} {v : Value} (hg : g ∉ S) (hc : w.cell? ⟨g, j, none⟩ = some v) : w'.cell? ⟨g, j, none⟩ = some v := by
  have hlt := World.block_lt_of_cell? w _ hc
  rw [World.cell?_of_block (w := w) (h.keep g hlt hg)]
  exact hc
theorem Mk.own {S : List Nat} {w w' : World} (h : Mk S w w') {e sz n : Nat} {v : Value} {inner : List Value} (ho : w.ownsRow 0 e sz v n inner) (hs : ∀ b, v.ownBlock = some b → b ∉ S) (hlt : ∀ b, v.ownBlock = some b → b < w.heap.size) : w'.ownsRow 0 e sz v n inner :=
  own_move ho (fun b hb => h.keep b (hlt b hb) (hs b hb))
theorem row_at {w : World} {e g n cap i : Nat} {inner rest : List Value} {a0 a1 a2 a3 a4 : Value} (h : w.ownsRow 0 e 5 (.slice (some ⟨g, 0, none⟩) n cap) n (inner ++ ([a0, a1, a2, a3, a4] ++ rest))) (hl : inner.length = i * 5) :
    (∀ b0, (w.setCell ⟨g, i * 5, none⟩ b0).ownsRow 0 e 5 (.slice (some ⟨g, 0, none⟩) n cap) n (inner ++ ([b0, a1, a2, a3, a4] ++ rest))) ∧
    (∀ b1, (w.setCell ⟨g, i * 5 + 1, none⟩ b1).ownsRow 0 e 5 (.slice (some ⟨g, 0, none⟩) n cap) n (inner ++ ([a0, b1, a2, a3, a4] ++ rest))) ∧
    (∀ b2, (w.setCell ⟨g, i * 5 + 2, none⟩ b2).ownsRow 0 e 5 (.slice (some ⟨g, 0, none⟩) n cap) n (inner ++ ([a0, a1, b2, a3, a4] ++ rest))) := by
  refine ⟨fun b0 => ?_, fun b1 => ?_, fun b2 => ?_⟩
  · have s0 := (World.ownsRow.stored h (i * 5) b0).1
    rwa [show (inner ++ ([a0, a1, a2, a3, a4] ++ rest)).set (i * 5) b0 = inner ++ ([b0, a1, a2, a3, a4] ++ rest) from by rw [← hl]; simp [List.set_append]] at s0
  · have s0 := (World.ownsRow.stored h (i * 5 + 1) b1).1
    rwa [show (inner ++ ([a0, a1, a2, a3, a4] ++ rest)).set (i * 5 + 1) b1 = inner ++ ([a0, b1, a2, a3, a4] ++ rest) from by rw [← hl]; simp [List.set_append]] at s0
  · have s0 := (World.ownsRow.stored h (i * 5 + 2) b2).1
    rwa [show (inner ++ ([a0, a1, a2, a3, a4] ++ rest)).set (i * 5 + 2) b2 = inner ++ ([a0, a1, b2, a3, a4] ++ rest) from by rw [← hl]; simp [List.set_append]] at s0
/-- markFormS on the row v of the forms ks, from k on. -/
def MarkPost (ks : List Fm) (v : Value) (fp : List Nat) (k : Int) (w : World) (e : Ending) (w' : World) : Prop :=
  e = .returned (.int .i64 (k + cntL ks)) ∧ (∃ inner, w'.ownsRow 0 34 5 v ks.length inner ∧ TrL w' (markL ks k) inner fp) ∧ Mk (obs v ++ fp) w w'
def MarkL (ks : List Fm) : Prop := ∀ (v : Value) (inner : List Value) (fp : List Nat) (k : Int) (w : World), w.ownsRow 0 34 5 v ks.length inner → TrL w ks inner fp → (obs v ++ fp).Nodup → 1 ≤ k → k + cntL ks ≤ 1000000000 →
    Calls Try.prog 42 #[v, .int .i64 k] w (MarkPost ks v fp k w)
theorem nd_parts {a b c d e f : List Nat} (h : (a ++ (b ++ ((c ++ (d ++ e)) ++ f))).Nodup) : (∀ x, x ∈ a → x ∉ b ∧ x ∉ c ∧ x ∉ d ++ e ∧ x ∉ f) ∧ (∀ x, x ∈ c → x ∉ a ∧ x ∉ b ∧ x ∉ d ++ e ∧ x ∉ f) ∧ (∀ x, x ∈ d ++ e → x ∉ a ∧ x ∉ b ∧ x ∉ c ∧ x ∉ f) ∧ (d ++ e).Nodup := by
  simp only [List.nodup_append, List.mem_append] at h
  grind
theorem markTextZ (k : Int) (w : World) (hk0 : 1 ≤ k) (hk1 : k ≤ 1000000000) : Calls Try.prog 54 #[.int .i64 k] w (Ret w (.string (mt k))) := by
  obtain ⟨n, rfl⟩ := Int.eq_ofNat_of_zero_le (show 0 ≤ k by omega)
  exact markText_any n w (by omega) (by omega)
set_option maxHeartbeats 4000000 in
set_option maxRecDepth 100000 in
theorem markFormS_of (ks : List Fm) (hks : ∀ x, x ∈ ks → MarkL x.f4) : MarkL ks := by
  intro v inner fp k w ho ht hnd hk0 hk1
  obtain ⟨A, c, rfl, hcap, hC0⟩ := ht.C ho
  have hmax := hC0.2.1
  have HI := Lib.hid (And.intro ho ht)
  have HK := Lib.hid hks
  have HND := Lib.hid hnd
  clear ho ht hks hC0 hnd
  go_enter Try.func42, Try.ntmps42
  go_wp2_with fail
  go_loopg [1, 5] ks.length (fun kq v1 v5 w' => ∃ i : Nat, i ≤ ks.length ∧ ks.length - i ≤ kq ∧ v5 = .int .i64 i ∧ v1 = .int .i64 (k + (cntL (ks.take i) : Int)) ∧ Aside0 (∃ ia ib fa fb, w'.ownsRow 0 34 5 (.slice A ks.length c) ks.length (ia ++ ib) ∧ TrL w' (markL (ks.take i) k) ia fa ∧ TrL w' (ks.drop i) ib fb ∧ fp = fa ++ fb) ∧ Aside0 (Mk (obs (.slice A ks.length c) ++ fp) w w'))
  case atStart => exact ⟨0, Nat.zero_le _, by omega, rfl, by simp [cntL], ⟨[], inner, [], fp, HI.out.1, TrL.nil, HI.out.2, rfl⟩, ⟨Mk.refl _ _⟩⟩
  case round =>
    obtain ⟨i, hi, hg, rfl, rfl, HO, HW⟩ := hrel
    by_cases hlt : i < ks.length
    · obtain ⟨ia, ib, fa, fb, ho, ha, hb, hfp⟩ := HO.out
      rw [List.drop_eq_getElem_cons hlt] at hb
      obtain ⟨v3, v4, rest, fk, fs, rfl, rfl, hkid, hrest⟩ := hb.cons_inv
      obtain ⟨inner4, fk4, rfl, h3, h4, hk4⟩ := hkid.open
      obtain ⟨C3, j3, rfl, hj3, _⟩ := own_C h3
      obtain ⟨C4, j4, rfl, hj4, _⟩ := hk4.C h4
      obtain ⟨g, cap, e, hg0, hglt⟩ := ho.form (by omega)
      have hA : A = some ⟨g, 0, none⟩ := by cases e; rfl
      have hcc : c = cap := by cases e; rfl
      subst hA
      subst hcc
      have hl := ha.len
      rw [markL_length, List.length_take, Nat.min_eq_left hi] at hl
      have hnd := HND.out
      rw [hfp] at hnd
      obtain ⟨n1, n2, n3, n4⟩ := nd_parts hnd
      have hct := cntL_take ks i hlt
      have hcle := cntL_take_le ks (i + 1)
      have hce := Fm.cnt_eq ks[i]
      obtain ⟨⟨q0, q1, q2, q3, q4⟩, hfz, _⟩ := row_put ho hl
      have z0 := hfz (i * 5)
      have z1 := hfz (i * 5 + 1)
      have z2 := hfz (i * 5 + 2)
      have MT := Lib.hid (markTextZ (k + (cntL (ks.take i) : Int) + 1) (wr.setCell ⟨g, i * 5, none⟩ (.int .i64 (k + (cntL (ks.take i) : Int)))) (by omega) (by omega))
      clear e hfz
      go_wp2_with fail
      refine MT.out.mono ?_
      rintro e w2 ⟨rfl, hb2⟩
      have hgS : g ∈ obs (.slice (some ⟨g, 0, none⟩) ks.length c) ++ fp := by simp [obs, Value.ownBlock]
      have ho2 := own_move (w1 := w2) ((row_at ho hl).1 (.int .i64 (k + (cntL (ks.take i) : Int)))) (fun b hb => by
        have : g = b := by simpa [Value.ownBlock] using hb
        subst this
        exact hb2.block g (by simpa using hglt))
      have m2 : Mk [g] wr w2 := (Mk.set wr (by simp) _ _).trans (Mk.ofBelow hb2)
      have ho3 := (row_at ho2 hl).2.1 (.string (mt (k + (cntL (ks.take i) : Int) + 1)))
      have ho4 := (row_at ho3 hl).2.2 (.int .i64 (k + (cntL (ks.take i) : Int) + 1 + 1))
      have m4 : Mk [g] wr ((w2.setCell ⟨g, i * 5 + 1, none⟩ (.string (mt (k + (cntL (ks.take i) : Int) + 1)))).setCell ⟨g, i * 5 + 2, none⟩ (.int .i64 (k + (cntL (ks.take i) : Int) + 1 + 1))) := (m2.trans (Mk.set _ (by simp) _ _)).trans (Mk.set _ (by simp) _ _)
      have hf1 := World.ownsRow.frozenAt ho2 (i * 5 + 1)
      have hf2 := World.ownsRow.frozenAt ho3 (i * 5 + 2)
      obtain ⟨⟨_, r1, r2, r3, r4⟩, _, _⟩ := row_put ho2 hl
      obtain ⟨⟨_, _, s2, s3, s4⟩, _, _⟩ := row_put ho3 hl
      obtain ⟨⟨_, _, _, t3, t4⟩, _, _⟩ := row_put ho4 hl
      clear q0 q1 q2 q3 q4 z0 z1 z2 MT hb2
      have HO4 := Lib.hid ho4
      have M4 := Lib.hid m4
      clear ho ho2 ho3 ho4 m2 m4
      go_wp2_with fail
      have hgm : g ∈ obs (.slice (some ⟨g, 0, none⟩) ks.length c) := by simp [obs, Value.ownBlock]
      have n1g := n1 g hgm
      have hklt := hkid.lt _
      have h3' := M4.out.own h3 (fun b hb => by
          have hb' : b ∈ obs (Value.slice C3 ks[i].f3.length j3) := obs_mem.2 hb
          intro h
          have : b = g := by simpa using h
          subst this
          exact n1g.2.1 hb') (fun b hb => hklt b (List.mem_append_left _ (obs_mem.2 hb)))
      refine (markIntS_any ks[i].f3 (.slice C3 ks[i].f3.length j3) _ _ (Kd.R_of_own h3' (fun _ _ => trivial)) (by omega) (by omega)).mono ?_
      rintro e w5 ⟨rfl, r5, m5⟩
      have m5' : Mk ([g] ++ obs (.slice C3 ks[i].f3.length j3)) wr w5 := (M4.out.more (fun j hj => List.mem_append_left _ hj)).trans (m5.more (fun j hj => List.mem_append_right _ hj))
      have u4 := m5.cell n1g.2.1 t4
      have hdis : ∀ b, b ∈ obs (Value.slice C4 ks[i].f4.length j4) ++ fk4 → b ∉ [g] ++ obs (.slice C3 ks[i].f3.length j3) := by
        intro b hb h
        have q := n3 b hb
        rcases List.mem_append.1 h with h | h
        · have : b = g := by simpa using h
          subst this
          exact q.1 hgm
        · exact q.2.2.1 h
      have h4' := m5'.own h4 (fun b hb => hdis b (List.mem_append_left _ (obs_mem.2 hb))) (fun b hb => hklt b (List.mem_append_right _ (List.mem_append_left _ (obs_mem.2 hb))))
      have hk4' := hk4.move _ (fun b hb => m5'.keep b (hklt b (List.mem_append_right _ (List.mem_append_right _ hb))) (hdis b (List.mem_append_right _ hb)))
      have MK := Lib.hid (HK.out ks[i] (List.getElem_mem hlt) _ _ _ (k + (cntL (ks.take i) : Int) + 1 + 1 + 1 + ks[i].f3.length) w5 h4' hk4' n4 (by omega) (by omega))
      clear r1 r2 r3 r4 s2 s3 s4 t3 t4 hf1 hf2
      go_wp2_with fail
      refine MK.out.mono ?_
      rintro e w6 ⟨rfl, ⟨inner', h6, t6⟩, m6⟩
      have mA : Mk (([g] ++ obs (.slice C3 ks[i].f3.length j3)) ++ (obs (.slice C4 ks[i].f4.length j4) ++ fk4)) wr w6 := (m5'.more (fun j hj => List.mem_append_left _ hj)).trans (m6.more (fun j hj => List.mem_append_right _ hj))
      have hgo : ∀ b, (Value.slice (some ⟨g, 0, none⟩) ks.length c).ownBlock = some b → b = g := fun b hb => by
        have : g = b := by simpa [Value.ownBlock] using hb
        exact this.symm
      have hsz5 : wr.heap.size ≤ w5.heap.size := m5'.b0.size
      have ho6 := m6.own (m5.own HO4.out (fun b hb => by rw [hgo b hb]; exact n1g.2.1) (fun b hb => by rw [hgo b hb]; exact Nat.lt_of_lt_of_le hglt M4.out.b0.size)) (fun b hb => by rw [hgo b hb]; exact n1g.2.2.1) (fun b hb => by rw [hgo b hb]; omega)
      have hd3 : ∀ b, b ∈ obs (Value.slice C3 ks[i].f3.length j3) → b ∉ obs (Value.slice C4 ks[i].f4.length j4) ++ fk4 := fun b hb => (n2 b hb).2.2.1
      have o5 := Kd.own_of_R r5
      rw [markI_length] at o5
      have o6 := m6.own o5 (fun b hb => hd3 b (obs_mem.2 hb)) (fun b hb => Nat.lt_of_lt_of_le (hklt b (List.mem_append_left _ (obs_mem.2 hb))) hsz5)
      have hfar : ∀ b, (b ∈ fa ∨ b ∈ fs) → b ∉ ([g] ++ obs (.slice C3 ks[i].f3.length j3)) ++ (obs (.slice C4 ks[i].f4.length j4) ++ fk4) := by
        intro b hb h
        rcases List.mem_append.1 h with h | h
        · rcases List.mem_append.1 h with h | h
          · have : b = g := by simpa using h
            subst this
            rcases hb with hb | hb
            · exact n1g.1 hb
            · exact n1g.2.2.2 hb
          · have q := n2 b h
            rcases hb with hb | hb
            · exact q.2.1 hb
            · exact q.2.2.2 hb
        · have q := n3 b h
          rcases hb with hb | hb
          · exact q.2.1 hb
          · exact q.2.2.2 hb
      have ha6 := ha.move _ (fun b hb => mA.keep b (ha.lt _ b hb) (hfar b (.inl hb)))
      have hr6 := hrest.move _ (fun b hb => mA.keep b (hrest.lt _ b hb) (hfar b (.inr hb)))
      have hK3 : k + (cntL (ks.take i) : Int) + 1 + 1 + 1 = k + (cntL (ks.take i) : Int) + 3 := by omega
      rw [hK3] at o6 t6
      have hkid6 : TrF w6 (ks[i].mark3 (k + (cntL (ks.take i) : Int))) (.slice C3 ks[i].f3.length j3) (.slice C4 ks[i].f4.length j4) (obs (.slice C3 ks[i].f3.length j3) ++ (obs (.slice C4 ks[i].f4.length j4) ++ fk4)) :=
        TrF.mk (ks[i].mark3 (k + (cntL (ks.take i) : Int))) _ _ inner' fk4 (by show w6.ownsRow 0 3 1 _ (markI ks[i].f3.length _).length _; rw [markI_length]; exact o6) (by show w6.ownsRow 0 34 5 _ (markL ks[i].f4 _).length _; rw [markL_length]; exact h6) t6
      have HF : Hid (∃ ia ib fa fb, w6.ownsRow 0 34 5 (.slice (some ⟨g, 0, none⟩) ks.length c) ks.length (ia ++ ib) ∧ TrL w6 (markL (ks.take (i + 1)) k) ia fa ∧ TrL w6 (ks.drop (i + 1)) ib fb ∧ fp = fa ++ fb) := by
        refine ⟨ia ++ [.int .i64 (k + (cntL (ks.take i) : Int)), .string (mt (k + (cntL (ks.take i) : Int) + 1)), .int .i64 (k + (cntL (ks.take i) : Int) + 2), .slice C3 ks[i].f3.length j3, .slice C4 ks[i].f4.length j4], rest, fa ++ (obs (.slice C3 ks[i].f3.length j3) ++ (obs (.slice C4 ks[i].f4.length j4) ++ fk4)), fs, ?_, ?_, hr6, ?_⟩
        · rw [List.append_assoc]
          have := ho6
          rwa [show k + (cntL (ks.take i) : Int) + 1 + 1 = k + (cntL (ks.take i) : Int) + 2 from by omega] at this
        · rw [markL_take ks i hlt]
          exact ha6.append (TrL.one hkid6)
        · rw [hfp]
          simp only [List.append_assoc]
      have HM : Hid (Mk (obs (.slice (some ⟨g, 0, none⟩) ks.length c) ++ fp) w w6) := HW.out.trans (mA.more (fun j hj => by
        rw [hfp]
        simp only [List.mem_append] at hj ⊢
        rcases hj with (h | h) | h
        · left; have : j = g := by simpa using h
          rw [this]; exact hgm
        · right; right; left; left; exact h
        · right; right; left; right; exact h))
      have HC := Lib.hid (show cntL (ks.take (i + 1)) = cntL (ks.take i) + (3 + (ks[i].f3.length + cntL ks[i].f4)) from by rw [hct, hce])
      clear n1 n2 n3 n4 n1g hklt h3 h4 h3' h4' hk4 hk4' m5 m5' m6 mA ho6 hd3 o5 o6 hfar ha6 hr6 hkid6 h6 t6 r5 u4 hdis ha hrest hkid hnd hfp hl hgS MK HO4 M4 HO hb hsz5 hgo
      go_wp2_with fail
      go_roundg (ks.length - (i + 1))
      case measure => omega
      case rel =>
        have hc := HC.out
        exact ⟨i + 1, by omega, Nat.le_refl _, by go_num, by rw [hc]; go_num, ⟨HF.out⟩, ⟨HM.out⟩⟩
    · obtain rfl : i = ks.length := by omega
      have HF : Hid (∃ inner, wr.ownsRow 0 34 5 (.slice A ks.length c) ks.length inner ∧ TrL wr (markL ks k) inner fp) := by
        obtain ⟨ia, ib, fa, fb, ho, ha, hb, hfp⟩ := HO.out
        rw [List.drop_length] at hb
        obtain ⟨rfl, rfl⟩ := hb.nil_inv
        rw [List.take_length] at ha
        exact ⟨ia, by simpa using ho, by rw [hfp, List.append_nil]; exact ha⟩
      have HT : Hid (ks.take ks.length = ks) := List.take_length
      clear HO
      go_wp2_with fail
      go_ret
      exact ⟨ret_i (by rw [HT.out]), HF.out, HW.out⟩
theorem markL_kids (x : Fm) : MarkL x.f4 := by
  induction x using Fm.ind with
  | h x ih => exact markFormS_of x.f4 ih
theorem markFormS_any (ks : List Fm) : MarkL ks := markFormS_of ks (fun x _ => markL_kids x)
/-- markForm on a form in own memory. -/
def MarkFPost (x : Fm) (v3 v4 : Value) (fp : List Nat) (k : Int) (w : World) (e : Ending) (w' : World) : Prop :=
  e = .returned (.int .i64 (k + x.cnt)) ∧ TrF w' (x.mark k) v3 v4 fp ∧ Mk fp w w'
set_option maxHeartbeats 2000000 in
theorem markForm_any (x : Fm) (v3 v4 : Value) (fp : List Nat) (k : Int) (w : World) (ht : TrF w x v3 v4 fp) (hnd : fp.Nodup) (hk0 : 1 ≤ k) (hk1 : k + x.cnt ≤ 1000000000) :
    Calls Try.prog 20 #[.agg #[.int .i64 x.f0, .string x.f1, .int .i64 x.f2, v3, v4], .int .i64 k] w (MarkFPost x v3 v4 fp k w) := by
  obtain ⟨inner4, fk4, rfl, h3, h4, hk4⟩ := ht.open
  have hlt := ht.lt _
  obtain ⟨C3, j3, rfl, hj3, _⟩ := own_C h3
  obtain ⟨C4, j4, rfl, hj4, _⟩ := hk4.C h4
  have hce := Fm.cnt_eq x
  have hb1 := below_new w (.cells #[.int .i64 x.f0, .string x.f1, .int .i64 x.f2, .slice C3 x.f3.length j3, .slice C4 x.f4.length j4] 34)
  have mn : Mk (obs (.slice C3 x.f3.length j3)) w _ := Mk.ofBelow hb1
  have h3' := own_move (w1 := w.alloc (.cells #[.int .i64 x.f0, .string x.f1, .int .i64 x.f2, .slice C3 x.f3.length j3, .slice C4 x.f4.length j4] 34)) h3 (fun b hb => hb1.block b (hlt b (List.mem_append_left _ (obs_mem.2 hb))))
  have MI := Lib.hid (markIntS_any x.f3 (.slice C3 x.f3.length j3) k _ (Kd.R_of_own h3' (fun _ _ => trivial)) (by omega) (by omega))
  obtain ⟨p0, p1, p2, p3, p4⟩ := fm_cells (blk_new w (.cells #[.int .i64 x.f0, .string x.f1, .int .i64 x.f2, .slice C3 x.f3.length j3, .slice C4 x.f4.length j4] 34))
  have hg3 : w.heap.size ∉ obs (Value.slice C3 x.f3.length j3) := fun h => by
    have := hlt _ (List.mem_append_left _ h)
    omega
  have hnd2 := List.nodup_append.1 hnd
  have MN := Lib.hid mn
  go_enter Try.func20, Try.ntmps20
  go_wp2_with fail
  refine MI.out.mono ?_
  rintro e w5 ⟨rfl, r5, m5⟩
  have u4 := m5.cell hg3 p4
  have m5' := MN.out.trans m5
  have hd : ∀ b, b ∈ obs (Value.slice C4 x.f4.length j4) ++ fk4 → b ∉ obs (Value.slice C3 x.f3.length j3) := fun b hb h => hnd2.2.2 b h b hb rfl
  have h4' := m5'.own h4 (fun b hb => hd b (List.mem_append_left _ (obs_mem.2 hb))) (fun b hb => hlt b (List.mem_append_right _ (List.mem_append_left _ (obs_mem.2 hb))))
  have hk4' := hk4.move _ (fun b hb => m5'.keep b (hlt b (List.mem_append_right _ (List.mem_append_right _ hb))) (hd b (List.mem_append_right _ hb)))
  have MK := Lib.hid (markFormS_any x.f4 _ _ _ (k + x.f3.length) w5 h4' hk4' hnd2.2.1 (by omega) (by omega))
  clear p0 p1 p2 p3 p4 MI
  go_wp2_with fail
  refine MK.out.mono ?_
  rintro e w6 ⟨rfl, ⟨inner', h6, t6⟩, m6⟩
  have o5 := Kd.own_of_R r5
  rw [markI_length] at o5
  have o6 := m6.own o5 (fun b hb h => hd b h (obs_mem.2 hb)) (fun b hb => Nat.lt_of_lt_of_le (hlt b (List.mem_append_left _ (obs_mem.2 hb))) m5'.b0.size)
  have HT : Hid (TrF w6 (x.mark k) (.slice C3 x.f3.length j3) (.slice C4 x.f4.length j4) (obs (.slice C3 x.f3.length j3) ++ (obs (.slice C4 x.f4.length j4) ++ fk4))) := by
    rw [Fm.mark_eq]
    exact TrF.mk _ _ _ inner' fk4 (by show w6.ownsRow 0 3 1 _ (markI x.f3.length _).length _; rw [markI_length]; exact o6) (by show w6.ownsRow 0 34 5 _ (markL x.f4 _).length _; rw [markL_length]; exact h6) t6
  have HM : Hid (Mk (obs (.slice C3 x.f3.length j3) ++ (obs (.slice C4 x.f4.length j4) ++ fk4)) w w6) := (m5'.more (fun j hj => List.mem_append_left _ hj)).trans (m6.more (fun j hj => List.mem_append_right _ hj))
  have HC := Lib.hid hce
  clear h3 h4 hk4 hlt h3' h4' hk4' m5 m5' m6 o5 o6 h6 t6 r5 u4 hd hg3 hnd hnd2 ht MK mn MN hb1 hce
  go_wp2_with fail
  go_ret
  refine ⟨ret_i ?_, HT.out, HM.out⟩
  rw [HC.out]
  omega
end Go.Proofs.Ytlklclebjeeaaaa
end
section
namespace Go.Proofs.Ytlklclebjeeaaaa
open Go.RowKit Go.Proofs.YtlklclebjeeaaaaW.PrintWords Go.Proofs.YtlklclebjeeaaaaW.PrintLast Go.Proofs.YtlklclebjeeaaaaW.PrintMore
set_option linter.unusedVariables false
set_option linter.unusedSimpArgs false
theorem keepTen {w1 w2 : World} (hb : Below w1.heap.size w1 w2) {a0 a1 a2 a3 a4 a5 a6 a7 a8 a9 : Addr} {v0 v1 v2 v3 v4 v5 v6 v7 v8 v9 : Value} (h : w1.cell? a0 = some v0 ∧ w1.cell? a1 = some v1 ∧ w1.cell? a2 = some v2 ∧ w1.cell? a3 = some v3 ∧ w1.cell? a4 = some v4 ∧ w1.cell? a5 = some v5 ∧ w1.cell? a6 = some v6 ∧ w1.cell? a7 = some v7 ∧ w1.cell? a8 = some v8 ∧ w1.cell? a9 = some v9) :
    w2.cell? a0 = some v0 ∧ w2.cell? a1 = some v1 ∧ w2.cell? a2 = some v2 ∧ w2.cell? a3 = some v3 ∧ w2.cell? a4 = some v4 ∧ w2.cell? a5 = some v5 ∧ w2.cell? a6 = some v6 ∧ w2.cell? a7 = some v7 ∧ w2.cell? a8 = some v8 ∧ w2.cell? a9 = some v9 :=
  let ⟨h0, h1, h2, h3, h4, h5, h6, h7, h8, h9⟩ := h
  ⟨ck0 hb h0, ck0 hb h1, ck0 hb h2, ck0 hb h3, ck0 hb h4, ck0 hb h5, ck0 hb h6, ck0 hb h7, ck0 hb h8, ck0 hb h9⟩
theorem cntL_tot (l : List Fm) (h : ∀ k, k ∈ l → k.cnt ≤ 3 * k.tot) : cntL l ≤ 3 * totL l := by
  induction l with
  | nil => simp [cntL]
  | cons k ks ih =>
    have h1 := h k List.mem_cons_self
    have h2 := ih (fun y hy => h y (List.mem_cons_of_mem _ hy))
    rw [cntL_cons]
    show _ ≤ 3 * (1 + k.tot + totL ks)
    omega
theorem Fm.cnt_tot (x : Fm) : x.cnt ≤ 3 * x.tot := by
  induction x using Fm.ind with
  | h x ih =>
    have h1 := cntL_tot x.f4 ih
    have h2 := x.cnt_eq
    have h3 := x.tot_eq
    omega
theorem Mk.blk {S : List Nat} {w w' : World} {g : Nat} {O : Obj} (h : Mk S w w') (hg : w.heap[g]? = some O) (hs : g ∉ S) : w'.heap[g]? = some O := by
  rw [h.keep g (blk_lt hg) hs]; exact hg
/-- A form in the blocks fp, which lie from lo on and ahead of hi. -/
structure Own (lo hi : Nat) (w : World) (x : Fm) (v3 v4 : Value) (fp : List Nat) : Prop where
  tree : TrF w x v3 v4 fp
  nd : fp.Nodup
  lo_ : ∀ b, b ∈ fp → lo ≤ b
  hi_ : ∀ b, b ∈ fp → b < hi
  sz : hi ≤ w.heap.size
theorem NewF.own {lo : Nat} {w : World} {x : Fm} {v3 v4 : Value} (h : NewF lo w x v3 v4) : ∃ A3 c3 A4 c4 fp, v3 = .slice A3 x.f3.length c3 ∧ v4 = .slice A4 x.f4.length c4 ∧ Own lo w.heap.size w x (.slice A3 x.f3.length c3) (.slice A4 x.f4.length c4) fp := by
  obtain ⟨fp, ht, hn, hg⟩ := h
  obtain ⟨A3, c3, A4, c4, rfl, rfl, _⟩ := ht.In
  exact ⟨A3, c3, A4, c4, fp, rfl, rfl, ht, hn, hg, ht.lt _, Nat.le_refl _⟩
theorem Own.later {lo hi : Nat} {w W : World} {x : Fm} {v3 v4 : Value} {fp : List Nat} (h : Own lo hi w x v3 v4 fp) (b : Below w.heap.size w W) : Own lo hi W x v3 v4 fp :=
  ⟨h.tree.later b, h.nd, h.lo_, h.hi_, Nat.le_trans h.sz b.size⟩
theorem Own.now {lo hi : Nat} {w : World} {x : Fm} {A3 : Option Addr} {c3 : Nat} {A4 : Option Addr} {c4 : Nat} {fp : List Nat} (h : Own lo hi w x (.slice A3 x.f3.length c3) (.slice A4 x.f4.length c4) fp) : FmIn w x A3 c3 A4 c4 := by
  obtain ⟨B3, d3, B4, d4, e1, e2, hin⟩ := h.tree.In
  injection e1 with a1 _ a2
  injection e2 with a3 _ a4
  subst a1 a2 a3 a4
  exact hin
/-- The blocks of S, from lo on and ahead of hi, and new ones may have changed. -/
structure Mrk (lo hi : Nat) (w w' : World) : Prop where
  ex : ∃ S, Mk S w w' ∧ ∀ b, b ∈ S → lo ≤ b ∧ b < hi
theorem Mrk.blk {lo hi : Nat} {w w' : World} {g : Nat} {O : Obj} (h : Mrk lo hi w w') (hg : w.heap[g]? = some O) (hs : g < lo ∨ hi ≤ g) : w'.heap[g]? = some O := by
  obtain ⟨S, hm, hS⟩ := h.ex
  exact hm.blk hg (fun q => by have := hS g q; omega)
theorem Mrk.below {lo hi B : Nat} {w w' : World} (h : Mrk lo hi w w') (hB : B ≤ w.heap.size) (hl : B ≤ lo) : Below B w w' := by
  obtain ⟨S, hm, hS⟩ := h.ex
  exact hm.below hB (fun b hb => Nat.le_trans hl (hS b hb).1)
theorem Mrk.own {lo hi lo2 hi2 : Nat} {w w' : World} {x : Fm} {v3 v4 : Value} {fp : List Nat} (h : Mrk lo hi w w') (ho : Own lo2 hi2 w x v3 v4 fp) (hd : hi ≤ lo2 ∨ hi2 ≤ lo) : Own lo2 hi2 w' x v3 v4 fp := by
  obtain ⟨S, hm, hS⟩ := h.ex
  exact ⟨hm.tree ho.tree (fun b hb q => by have := hS b q; have := ho.lo_ b hb; have := ho.hi_ b hb; omega), ho.nd, ho.lo_, ho.hi_, Nat.le_trans ho.sz hm.b0.size⟩
theorem Mrk.size {lo hi : Nat} {w w' : World} (h : Mrk lo hi w w') : w.heap.size ≤ w'.heap.size := by
  obtain ⟨S, hm, hS⟩ := h.ex
  exact hm.b0.size
/-- What is returned: a form in new blocks. -/
def GetO1 (w : World) (x : Fm) (e : Ending) (w' : World) : Prop := ∃ A3 c3 A4 c4 fp, e = .returned (.agg #[.int .i64 x.f0, .string x.f1, .int .i64 x.f2, .slice A3 x.f3.length c3, .slice A4 x.f4.length c4]) ∧ Own w.heap.size w'.heap.size w' x (.slice A3 x.f3.length c3) (.slice A4 x.f4.length c4) fp ∧ Below w.heap.size w w'
theorem RetF.getO1 {w : World} {x : Fm} {e : Ending} {w' : World} (h : RetF w x e w') : GetO1 w x e w' := by
  obtain ⟨v3, v4, rfl, hn, hb⟩ := h
  obtain ⟨A3, c3, A4, c4, fp, rfl, rfl, ho⟩ := NewF.own hn
  exact ⟨A3, c3, A4, c4, fp, rfl, ho, hb⟩
theorem toFormO (x : Fm) (A3 : Option Addr) (c3 : Nat) (A4 : Option Addr) (c4 : Nat) (w : World) (hin : FmIn w x A3 c3 A4 c4) (ht : x.tot ≤ 1048576) :
    Calls Try.prog 14 #[.agg #[.int .i64 x.f0, .string x.f1, .int .i64 x.f2, .slice A3 x.f3.length c3, .slice A4 x.f4.length c4]] w (GetO1 w x) :=
  (toForm_any x A3 c3 A4 c4 w hin ht).mono (fun e w' h => h.getO1)
theorem markForm_own {lo hi : Nat} {w : World} {x : Fm} {v3 v4 : Value} {fp : List Nat} (k : Int) (h : Own lo hi w x v3 v4 fp) (hk0 : 1 ≤ k) (hk1 : k + 3 * x.tot ≤ 1000000000) :
    Calls Try.prog 20 #[.agg #[.int .i64 x.f0, .string x.f1, .int .i64 x.f2, v3, v4], .int .i64 k] w (fun e w' => e = .returned (.int .i64 (k + x.cnt)) ∧ Own lo hi w' (x.mark k) v3 v4 fp ∧ Mrk lo hi w w') := by
  have hc := x.cnt_tot
  refine (markForm_any x v3 v4 fp k w h.tree h.nd hk0 (by omega)).mono ?_
  rintro e w' ⟨rfl, ht, hm⟩
  exact ⟨rfl, ⟨ht, h.nd, h.lo_, h.hi_, Nat.le_trans h.sz hm.b0.size⟩, ⟨fp, hm, fun b hb => ⟨h.lo_ b hb, h.hi_ b hb⟩⟩⟩
end Go.Proofs.Ytlklclebjeeaaaa
end
section
namespace Go.Proofs.Ytlklclebjeeaaaa
open Go.RowKit Go.Proofs.YtlklclebjeeaaaaW.PrintWords Go.Proofs.YtlklclebjeeaaaaW.PrintLast Go.Proofs.YtlklclebjeeaaaaW.PrintMore
set_option linter.unusedVariables false
set_option linter.unusedSimpArgs false
/-- A list of ints whose block lies from lo on and ahead of hi. -/
structure OwnI (lo hi : Nat) (w : World) (v : Value) (xs : List Int) : Prop where
  row : w.ownsRow 0 3 1 v xs.length (encI xs)
  at_ : ∀ b, v.ownBlock = some b → lo ≤ b ∧ b < hi
  sz : hi ≤ w.heap.size
def GetOI (w : World) (xs : List Int) (e : Ending) (w' : World) : Prop := ∃ A c, e = .returned (.slice A xs.length c) ∧ OwnI w.heap.size w'.heap.size w' (.slice A xs.length c) xs ∧ Below w.heap.size w w'
theorem OwnI.now {lo hi : Nat} {w : World} {A : Option Addr} {c : Nat} {xs : List Int} (h : OwnI lo hi w (.slice A xs.length c) xs) : xs.length ≤ c ∧ kI.C w A xs.length xs := by
  obtain ⟨B, d, e, hc, hr⟩ := own_C h.row
  injection e with e1 _ e2
  subst e1 e2
  exact ⟨hc, hr⟩
theorem OwnI.later {lo hi : Nat} {w W : World} {v : Value} {xs : List Int} (h : OwnI lo hi w v xs) (b : Below w.heap.size w W) : OwnI lo hi W v xs :=
  ⟨own_move h.row (fun k hk => b.block k (Nat.lt_of_lt_of_le (h.at_ k hk).2 h.sz)), h.at_, Nat.le_trans h.sz b.size⟩
end Go.Proofs.Ytlklclebjeeaaaa
end
section
namespace Go.Proofs.Ytlklclebjeeaaaa
open Go.RowKit Go.Proofs.YtlklclebjeeaaaaW.PrintWords Go.Proofs.YtlklclebjeeaaaaW.PrintLast Go.Proofs.YtlklclebjeeaaaaW.PrintMore
set_option linter.unusedVariables false
set_option linter.unusedSimpArgs false
def cntB : List Bd → Nat
  | [] => 0
  | b :: l => 2 + b.f1.length + cntB l
theorem cntB_append (a b : List Bd) : cntB (a ++ b) = cntB a + cntB b := by
  induction a with
  | nil => simp [cntB]
  | cons x a ih => simp only [List.cons_append, cntB, ih]; omega
theorem cntB_take (l : List Bd) (i : Nat) (h : i < l.length) : cntB (l.take (i + 1)) = cntB (l.take i) + (2 + l[i].f1.length) := by
  rw [List.take_succ_eq_append_getElem h, cntB_append]; simp [cntB]
theorem cntB_take_le (l : List Bd) (i : Nat) : cntB (l.take i) ≤ cntB l := by
  have := cntB_append (l.take i) (l.drop i)
  rw [List.take_append_drop] at this
  omega
/-- The list at place i: its row, and how it is put together again. -/
theorem BdL.at_ {w : World} : ∀ {m : List Bd} {inner : List Value} {fp : List Nat}, BdL w m inner fp → ∀ (i : Nat) (h : i < m.length), ∃ ia v1 ib fa fb, inner = ia ++ ([.string m[i].f0, v1, .int .i64 m[i].f2] ++ ib) ∧ fp = fa ++ (obs v1 ++ fb) ∧ ia.length = i * 3 ∧ w.ownsRow 0 3 1 v1 m[i].f1.length (encI m[i].f1) ∧
    ∀ (w1 : World) (b : Bd), (∀ k, k ∈ fa ++ fb → w1.heap[k]? = w.heap[k]?) → w1.ownsRow 0 3 1 v1 b.f1.length (encI b.f1) → BdL w1 (m.set i b) (ia ++ ([.string b.f0, v1, .int .i64 b.f2] ++ ib)) fp
  | [], inner, fp, h, i, hi => absurd hi (Nat.not_lt_zero _)
  | x :: m, inner, fp, h, 0, hi => by
    obtain ⟨v1, rest, fs, rfl, rfl, h1, hs⟩ := h
    refine ⟨[], v1, rest, [], fs, rfl, rfl, rfl, h1, fun w1 b hm hb => ?_⟩
    exact ⟨v1, rest, fs, rfl, rfl, hb, hs.move (fun k hk => hm k (by simpa using hk))⟩
  | x :: m, inner, fp, h, i + 1, hi => by
    obtain ⟨v1, rest, fs, rfl, rfl, h1, hs⟩ := h
    obtain ⟨ia, v2, ib, fa, fb, rfl, rfl, hl, h2, hput⟩ := BdL.at_ hs i (by simpa using hi)
    refine ⟨[.string x.f0, v1, .int .i64 x.f2] ++ ia, v2, ib, obs v1 ++ fa, fb, by simp, by simp, by simp [hl]; omega, by simpa using h2, fun w1 b hm hb => ?_⟩
    refine ⟨v1, ia ++ ([.string b.f0, v2, .int .i64 b.f2] ++ ib), fa ++ (obs v2 ++ fb), by simp, by simp, own_move h1 (fun k hk => hm k (by simp [obs_mem, hk])), ?_⟩
    exact hput w1 b (fun k hk => hm k (by rcases List.mem_append.1 hk with q | q <;> simp [q])) hb
theorem BdL.length_ {w : World} {m : List Bd} {inner : List Value} {fp : List Nat} (h : BdL w m inner fp) {v : Value} {n : Nat} (ho : w.ownsRow 0 66 3 v n inner) : m.length = n := by
  have h1 := h.len
  have h2 := ho.1
  omega
theorem row_at3 {w : World} {e g n cap i : Nat} {inner rest : List Value} {a0 a1 a2 : Value} (h : w.ownsRow 0 e 3 (.slice (some ⟨g, 0, none⟩) n cap) n (inner ++ ([a0, a1, a2] ++ rest))) (hl : inner.length = i * 3) :
    (∀ b, (w.setCell ⟨g, i * 3, none⟩ b).ownsRow 0 e 3 (.slice (some ⟨g, 0, none⟩) n cap) n (inner ++ ([b, a1, a2] ++ rest))) ∧ (∀ b, (w.setCell ⟨g, i * 3 + 2, none⟩ b).ownsRow 0 e 3 (.slice (some ⟨g, 0, none⟩) n cap) n (inner ++ ([a0, a1, b] ++ rest))) := by
  refine ⟨fun b => ?_, fun b => ?_⟩
  · have s0 := (World.ownsRow.stored h (i * 3) b).1
    have e : (inner ++ ([a0, a1, a2] ++ rest)).set (i * 3) b = inner ++ ([b, a1, a2] ++ rest) := by rw [← hl]; simp [List.set_append]
    rwa [e] at s0
  · have s0 := (World.ownsRow.stored h (i * 3 + 2) b).1
    have e : (inner ++ ([a0, a1, a2] ++ rest)).set (i * 3 + 2) b = inner ++ ([a0, a1, b] ++ rest) := by rw [← hl]; simp [List.set_append]
    rwa [e] at s0
def markB : List Bd → Int → List Bd
  | [], _ => []
  | b :: l, k => ⟨mt k, markI b.f1.length (k + 1), k + 1 + b.f1.length⟩ :: markB l (k + 2 + b.f1.length)
theorem markB_length : ∀ (l : List Bd) (k : Int), (markB l k).length = l.length
  | [], _ => rfl
  | b :: l, k => by simp [markB, markB_length l]
theorem markB_append : ∀ (a b : List Bd) (k : Int), markB (a ++ b) k = markB a k ++ markB b (k + cntB a)
  | [], b, k => by simp [markB, cntB]
  | x :: a, b, k => by
    rw [List.cons_append, markB, markB, markB_append a b, List.cons_append]
    congr 3
    simp only [cntB]
    omega
theorem markB_set (l : List Bd) (k : Int) (i : Nat) (h : i < l.length) (K : Int) (hK : k + (cntB (l.take i) : Int) = K) : (markB (l.take i) k ++ l.drop i).set i ⟨mt K, markI l[i].f1.length (K + 1), K + 1 + l[i].f1.length⟩ = markB (l.take (i + 1)) k ++ l.drop (i + 1) := by
  have hl : (markB (l.take i) k).length = i := by rw [markB_length, List.length_take]; omega
  have e1 : (l.drop i).set 0 ⟨mt K, markI l[i].f1.length (K + 1), K + 1 + l[i].f1.length⟩ = ⟨mt K, markI l[i].f1.length (K + 1), K + 1 + l[i].f1.length⟩ :: l.drop (i + 1) := by rw [List.drop_eq_getElem_cons h]; rfl
  rw [List.set_append_right _ _ (by omega), hl, Nat.sub_self, e1, List.take_succ_eq_append_getElem h, markB_append, hK, List.append_assoc]
  rfl
theorem markB_at (l : List Bd) (k : Int) (i : Nat) (h : i < l.length) (h2 : i < (markB (l.take i) k ++ l.drop i).length) : (markB (l.take i) k ++ l.drop i)[i] = l[i] := by
  have hl : (markB (l.take i) k).length = i := by rw [markB_length, List.length_take]; omega
  rw [List.getElem_append_right (by omega)]
  simp [hl]
theorem markB_get (l : List Bd) (k : Int) (i : Nat) (h : i < l.length) : (markB l k)[i]'(by rw [markB_length]; exact h) = ⟨mt (k + (cntB (l.take i) : Int)), markI l[i].f1.length (k + (cntB (l.take i) : Int) + 1), k + (cntB (l.take i) : Int) + 1 + l[i].f1.length⟩ := by
  have e := markB_append (l.take i) (l.drop i) k
  rw [List.take_append_drop] at e
  have hl : (markB (l.take i) k).length = i := by rw [markB_length, List.length_take]; omega
  have : (markB l k)[i]? = some ⟨mt (k + (cntB (l.take i) : Int)), markI l[i].f1.length (k + (cntB (l.take i) : Int) + 1), k + (cntB (l.take i) : Int) + 1 + l[i].f1.length⟩ := by
    rw [e, List.getElem?_append_right (by omega), hl, Nat.sub_self, List.drop_eq_getElem_cons h, markB]
    rfl
  rw [List.getElem?_eq_getElem (by rw [markB_length]; exact h)] at this
  exact Option.some.inj this
set_option maxHeartbeats 4000000 in
set_option maxRecDepth 100000 in
theorem markBindS_any (l : List Bd) (A : Option Addr) (c : Nat) (inner : List Value) (fp : List Nat) (k : Int) (w : World) (ho : w.ownsRow 0 66 3 (.slice A l.length c) l.length inner) (ht : BdL w l inner fp) (hnd : (obs (.slice A l.length c) ++ fp).Nodup) (hk0 : 1 ≤ k) (hk1 : k + cntB l ≤ 1000000000) (hl : l.length ≤ 1000000000) :
    Calls Try.prog 19 #[.slice A l.length c, .int .i64 k] w (fun e w' => e = .returned (.int .i64 (k + cntB l)) ∧ (∃ inner', w'.ownsRow 0 66 3 (.slice A l.length c) l.length inner' ∧ BdL w' (markB l k) inner' fp) ∧ Mk (obs (.slice A l.length c) ++ fp) w w') := by
  have HI := Lib.hid (And.intro ho ht)
  have HND := Lib.hid hnd
  clear ho ht hnd
  go_enter Try.func19, Try.ntmps19
  go_wp2_with fail
  go_loopg [1, 5] l.length (fun kq v1 v5 w' => ∃ i : Nat, i ≤ l.length ∧ l.length - i ≤ kq ∧ v5 = .int .i64 i ∧ v1 = .int .i64 (k + (cntB (l.take i) : Int)) ∧ Aside0 (∃ (m : List Bd) (inner' : List Value), w'.ownsRow 0 66 3 (.slice A l.length c) l.length inner' ∧ BdL w' m inner' fp ∧ m = markB (l.take i) k ++ l.drop i) ∧ Aside0 (Mk (obs (.slice A l.length c) ++ fp) w w'))
  case atStart => exact ⟨0, Nat.zero_le _, by omega, rfl, by simp [cntB], ⟨l, inner, HI.out.1, HI.out.2, by simp [markB]⟩, ⟨Mk.refl _ _⟩⟩
  case round =>
    obtain ⟨i, hi, hg, rfl, rfl, HO, HW⟩ := hrel
    by_cases hlt : i < l.length
    · obtain ⟨m, inn, ho, hb, hm⟩ := HO.out
      have hml := hb.length_ ho
      have hmi : i < m.length := by omega
      have hlen : m[i].f1.length = l[i].f1.length := by subst hm; rw [markB_at l k i hlt]
      have hmx : m[i] = l[i] := by subst hm; rw [markB_at l k i hlt]
      obtain ⟨ia, v1, ib, fa, fb, rfl, hfp, hil, h1, hput⟩ := hb.at_ i hmi
      obtain ⟨g, cap, e, hg0, hg1⟩ := ho.form (by omega)
      have hA : A = some ⟨g, 0, none⟩ := by cases e; rfl
      have hcc : c = cap := by cases e; rfl
      subst hA
      subst hcc
      have hct := cntB_take l i hlt
      have hcle := cntB_take_le l (i + 1)
      have hgn : g ∉ fp := fun q => by
        have := HND.out
        rw [show obs (Value.slice (some ⟨g, 0, none⟩) l.length c) = [g] from rfl] at this
        simp [q] at this
      have hgv : g ∉ obs v1 := fun q => hgn (by rw [hfp]; simp [q])
      obtain ⟨B, d, rfl, hcap, _⟩ := own_C h1
      have hdis : ∀ q, q ∈ fa ++ fb → q ∉ obs (Value.slice B m[i].f1.length d) := by
        intro q hq hv
        have hn := HND.out
        rw [hfp] at hn
        have hn2 := (List.nodup_append.1 hn).2.1
        obtain ⟨_, n2, n3⟩ := List.nodup_append.1 hn2
        obtain ⟨_, _, n4⟩ := List.nodup_append.1 n2
        rcases List.mem_append.1 hq with q1 | q1
        · exact n3 q q1 q (List.mem_append_left _ hv) rfl
        · exact n4 q hv q q1 rfl
      have hgo : ∀ b, (Value.slice (some ⟨g, 0, none⟩) l.length c).ownBlock = some b → b = g := fun b hb => by
        have : g = b := by simpa [Value.ownBlock] using hb
        exact this.symm
      generalize hx : m[i] = x at hput h1 ho hlen hgv hdis
      rw [hx] at hfp
      generalize hK : k + (cntB (l.take i) : Int) = K
      have hK1 : 1 ≤ K := by omega
      have hK2 : K + 2 + x.f1.length ≤ 1000000000 := by omega
      have HLN := Lib.hid hlen
      clear hlen
      have HMX := Lib.hid hmx
      clear hmx
      obtain ⟨⟨z0, z1, z2⟩, hfz, _⟩ := row_put3 ho hil
      have y9 := hfz (i * 3)
      have MT := Lib.hid (markTextZ K wr (by omega) (by omega))
      have p1 : (0 : Int) ≤ (i : Int) := by omega
      have p2 : (i : Int) < (l.length : Int) := by omega
      clear e hfz
      go_wp2_with fail
      refine MT.out.mono ?_
      rintro e w2 ⟨rfl, hb2⟩
      have ho2 := own_move (w1 := w2) ho (fun b hb => by rw [hgo b hb]; exact hb2.block g hg1)
      obtain ⟨⟨r0, r1, r2⟩, hf2, _⟩ := row_put3 ho2 hil
      have y0 := hf2 (i * 3)
      have ho3 := (row_at3 ho2 hil).1 (.string (mt K))
      have m3 : Mk [g] wr (w2.setCell ⟨g, i * 3, none⟩ (.string (mt K))) := (Mk.ofBelow hb2).trans (Mk.set _ (by simp) _ _)
      obtain ⟨⟨s0, s1, s2⟩, hf3, _⟩ := row_put3 ho3 hil
      have h1' := m3.own h1 (fun b hb h => hgv (by
        have hbg : b = g := (by simpa using h)
        rw [← hbg]
        exact obs_mem.2 hb)) (fun b hb => own_lt h1 b hb)
      have HO3 := Lib.hid ho3
      have M3 := Lib.hid m3
      clear z0 z1 z2 y9 MT hb2 ho2 ho3 m3 hf2 hf3
      go_wp2_with fail
      refine (markIntS_any x.f1 (.slice B x.f1.length d) (K + 1) _ (Kd.R_of_own h1' (fun _ _ => trivial)) (by omega) (by omega)).mono ?_
      rintro e w5 ⟨rfl, r5, m5⟩
      have u2 := m5.cell hgv s2
      have ho5 := m5.own HO3.out (fun b hb => by rw [hgo b hb]; exact hgv) (fun b hb => by rw [hgo b hb]; exact Nat.lt_of_lt_of_le hg1 M3.out.b0.size)
      have y2 := World.ownsRow.frozenAt ho5 (i * 3 + 2)
      have o5 := Kd.own_of_R r5
      have ho6 := (row_at3 ho5 hil).2 (.int .i64 (K + 1 + x.f1.length))
      have m6 : Mk ([g] ++ obs (.slice B x.f1.length d)) wr (w5.setCell ⟨g, i * 3 + 2, none⟩ (.int .i64 (K + 1 + x.f1.length))) := ((M3.out.more (fun j hj => List.mem_append_left _ hj)).trans (m5.more (fun j hj => List.mem_append_right _ hj))).trans (Mk.set _ (by simp) _ _)
      have o6 := own_move (w1 := w5.setCell ⟨g, i * 3 + 2, none⟩ (.int .i64 (K + 1 + x.f1.length))) o5 (fun b hb => Below.heap_setCell _ _ _ _ (fun h => hgv (by rw [← show b = g from h]; exact obs_mem.2 hb)))
      have hlt' := hb.lt
      have hB6 := hput _ ⟨mt K, markI x.f1.length (K + 1), K + 1 + x.f1.length⟩ (fun q hq => m6.keep q (hlt' q (by rw [hfp]; rcases List.mem_append.1 hq with h | h <;> simp [h])) (fun h => by
        rcases List.mem_append.1 h with h | h
        · have : q = g := by simpa using h
          subst this
          exact hgn (by rw [hfp]; rcases List.mem_append.1 hq with h | h <;> simp [h])
        · exact hdis q hq h)) o6
      have HNEW := Lib.hid (And.intro ho6 (And.intro hB6 (show m.set i ⟨mt K, markI x.f1.length (K + 1), K + 1 + x.f1.length⟩ = markB (l.take (i + 1)) k ++ l.drop (i + 1) from by
        rw [← markB_set l k i hlt K hK, hm, ← hx, HMX.out])))
      have HM6 := Lib.hid (HW.out.trans (m6.more (fun j hj => by
        rcases List.mem_append.1 hj with h | h
        · exact List.mem_append_left _ h
        · exact List.mem_append_right _ (by rw [hfp]; simp [h]))))
      have HKE := Lib.hid hK
      have HCT := Lib.hid hct
      clear ho5 ho6 m6 o5 o6 r5 m5 hB6 hput hdis hgn hgv hgo hm h1 h1' hb hlt' r0 r1 r2 y0 s0 s1 s2 HO3 M3 ho hx hK hct
      go_wp2_with fail
      go_roundg (l.length - (i + 1))
      case measure => omega
      case rel =>
        refine ⟨i + 1, by omega, Nat.le_refl _, by go_num, ?_, ⟨⟨_, _, HNEW.out.1, HNEW.out.2.1, HNEW.out.2.2⟩⟩, ⟨HM6.out⟩⟩
        rw [HCT.out, ← HLN.out, ← HKE.out]
        go_num
    · obtain rfl : i = l.length := by omega
      have HT : Hid (l.take l.length = l) := List.take_length
      go_wp2_with fail
      go_ret
      refine ⟨ret_i (by rw [HT.out]), ?_, HW.out⟩
      obtain ⟨m, inn, ho, hb, hm⟩ := HO.out
      rw [HT.out, List.drop_length, List.append_nil] at hm
      subst hm
      exact ⟨inn, ho, hb⟩
end Go.Proofs.Ytlklclebjeeaaaa
end
section
namespace Go.Proofs.Ytlklclebjeeaaaa
open Go.RowKit Go.Proofs.YtlklclebjeeaaaaW.PrintWords Go.Proofs.YtlklclebjeeaaaaW.PrintLast Go.Proofs.YtlklclebjeeaaaaW.PrintMore
set_option linter.unusedVariables false
set_option linter.unusedSimpArgs false
theorem BdL.reps {w : World} : ∀ (l : List Bd) {inner : List Value} {fp : List Nat}, BdL w l inner fp → Reps (kB.K w) 3 l inner := by
  intro l
  induction l with
  | nil => intro inner fp h; obtain ⟨rfl, rfl⟩ := h; exact Reps.none _ _
  | cons b l ih =>
    intro inner fp h
    obtain ⟨v1, rest, fs, rfl, rfl, h1, hs⟩ := h
    obtain ⟨A, c, rfl, hc, hr⟩ := own_C h1
    have hr2 := ih hs
    refine ⟨by rw [List.length_append, hr2.1]; simp; omega, fun j p hj => ?_⟩
    cases j with
    | zero =>
      have : b = p := by simpa using hj
      subst this
      simpa using Q.k66_mk w b hc hr
    | succ j =>
      have h2 := hr2.2 j p (by simpa using hj)
      rw [show (j + 1) * 3 = 3 + j * 3 from by omega, ← List.drop_drop]
      simpa using h2
theorem BdL.C {w : World} {l : List Bd} {inner : List Value} {fp : List Nat} {v : Value} (h : BdL w l inner fp) (h4 : w.ownsRow 0 66 3 v l.length inner) : ∃ A c, v = .slice A l.length c ∧ l.length ≤ c ∧ kB.C w A l.length l := by
  obtain ⟨A4, c4, e, r4⟩ := own_reads_row (R := kB.K w) h4 (h.reps l) rfl
  subst e
  exact ⟨A4, c4, rfl, own_le h4, r4⟩
/-- A list of bindings in blocks that lie from lo on and ahead of hi. -/
structure OwnB (lo hi : Nat) (w : World) (l : List Bd) (v : Value) : Prop where
  ex : ∃ inner fp, w.ownsRow 0 66 3 v l.length inner ∧ BdL w l inner fp ∧ (obs v ++ fp).Nodup ∧ ∀ b, b ∈ obs v ++ fp → lo ≤ b ∧ b < hi
  sz : hi ≤ w.heap.size
theorem OwnB.now {lo hi : Nat} {w : World} {l : List Bd} {A : Option Addr} {c : Nat} (h : OwnB lo hi w l (.slice A l.length c)) : l.length ≤ c ∧ kB.C w A l.length l := by
  obtain ⟨inner, fp, ho, ht, _⟩ := h.ex
  obtain ⟨B, d, e, hc, hr⟩ := ht.C ho
  injection e with e1 _ e2
  subst e1 e2
  exact ⟨hc, hr⟩
theorem OwnB.later {lo hi : Nat} {w W : World} {l : List Bd} {v : Value} (h : OwnB lo hi w l v) (b : Below w.heap.size w W) : OwnB lo hi W l v := by
  obtain ⟨inner, fp, ho, ht, hn, hg⟩ := h.ex
  exact ⟨⟨inner, fp, own_move ho (fun k hk => b.block k (own_lt ho k hk)), ht.later b, hn, hg⟩, Nat.le_trans h.sz b.size⟩
theorem Mrk.ownB {lo hi lo2 hi2 : Nat} {w w' : World} {l : List Bd} {v : Value} (h : Mrk lo hi w w') (ho : OwnB lo2 hi2 w l v) (hd : hi ≤ lo2 ∨ hi2 ≤ lo) : OwnB lo2 hi2 w' l v := by
  obtain ⟨S, hm, hS⟩ := h.ex
  obtain ⟨inner, fp, ho1, ht, hn, hg⟩ := ho.ex
  have hk : ∀ b, b ∈ obs v ++ fp → w'.heap[b]? = w.heap[b]? := fun b hb => hm.keep b (Nat.lt_of_lt_of_le (hg b hb).2 ho.sz) (fun q => by have := hS b q; have := hg b hb; omega)
  exact ⟨⟨inner, fp, own_move ho1 (fun k hk2 => hk k (List.mem_append_left _ (obs_mem.2 hk2))), ht.move (fun k hk2 => hk k (List.mem_append_right _ hk2)), hn, hg⟩, Nat.le_trans ho.sz hm.b0.size⟩
def GetOB (w : World) (l : List Bd) (e : Ending) (w' : World) : Prop := ∃ A c, e = .returned (.slice A l.length c) ∧ OwnB w.heap.size w'.heap.size w' l (.slice A l.length c) ∧ Below w.heap.size w w'
theorem NewB.own {lo : Nat} {w : World} {l : List Bd} {v : Value} (h : NewB lo w l v) : ∃ A c, v = .slice A l.length c ∧ OwnB lo w.heap.size w l (.slice A l.length c) := by
  obtain ⟨inner, fp, ho, ht, hn, hg⟩ := h
  obtain ⟨B, d, rfl, _, _⟩ := ht.C ho
  refine ⟨B, d, rfl, ⟨inner, fp, ho, ht, hn, fun b hb2 => ⟨hg b hb2, ?_⟩⟩, Nat.le_refl _⟩
  rcases List.mem_append.1 hb2 with q | q
  · exact own_lt ho b (obs_mem.1 q)
  · exact ht.lt b q
theorem toBindSO (l : List Bd) (A : Option Addr) (c : Nat) (w : World) (hr : kB.C w A l.length l) (hc : l.length ≤ c) (hs : SmB l) :
    Calls Try.prog 13 #[.slice A l.length c] w (GetOB w l) := by
  refine (toB_own l A c w hr hc hs).mono ?_
  rintro e w' ⟨v, rfl, hn, hb⟩
  obtain ⟨B, d, rfl, ho⟩ := hn.own
  exact ⟨B, d, rfl, ho, hb⟩
theorem cntB_tot (l : List Bd) : cntB l ≤ 2 * (l.length + totB l) := by
  induction l with
  | nil => simp [cntB]
  | cons b l ih => simp only [cntB, List.length_cons, totB] at *; omega
theorem markBindS_own {lo hi : Nat} {w : World} {l : List Bd} {A : Option Addr} {c : Nat} (k : Int) (h : OwnB lo hi w l (.slice A l.length c)) (hk0 : 1 ≤ k) (hk1 : k + 2 * (l.length + totB l) ≤ 1000000000) :
    Calls Try.prog 19 #[.slice A l.length c, .int .i64 k] w (fun e w' => e = .returned (.int .i64 (k + cntB l)) ∧ Mrk lo hi w w' ∧ OwnB lo hi w' (markB l k) (.slice A l.length c)) := by
  obtain ⟨inner, fp, ho, ht, hn, hg⟩ := h.ex
  have hc := cntB_tot l
  refine (markBindS_any l A c inner fp k w ho ht hn hk0 (by omega) (by omega)).mono ?_
  rintro e w' ⟨rfl, ⟨inn, ho2, hb2⟩, hm⟩
  exact ⟨rfl, ⟨_, hm, hg⟩, ⟨⟨inn, fp, by rw [markB_length]; exact ho2, hb2, hn, hg⟩, Nat.le_trans h.sz hm.b0.size⟩⟩
end Go.Proofs.Ytlklclebjeeaaaa
end
section
namespace Go.Proofs.Ytlklclebjeeaaaa
open Go.RowKit Go.Proofs.YtlklclebjeeaaaaW.PrintWords
set_option linter.unusedVariables false
set_option linter.unusedSimpArgs false
section
open Go.Proofs.Ytlklclebjeeaaaa.Q
theorem isName_pair {l : List Bd} {x : Fm} : pB (BdsOk l ∧ IsName x) = (pB (BdsOk l) && pB (IsName x)) := by
  by_cases h1 : BdsOk l
  · by_cases h2 : IsName x
    · rw [pB_iff.2 ⟨h1, h2⟩, pB_iff.2 h1, pB_iff.2 h2]; rfl
    · rw [← pB_no h2, ← pB_no (fun k : BdsOk l ∧ IsName x => h2 k.2), Bool.and_false]
  · rw [← pB_no h1, ← pB_no (fun k : BdsOk l ∧ IsName x => h1 k.1), Bool.false_and]
end
end Go.Proofs.Ytlklclebjeeaaaa
end
section
namespace Go.Proofs.Ytlklclebjeeaaaa.Q
open Go.RowKit Go.Proofs.YtlklclebjeeaaaaW.PrintWords Go.Proofs.YtlklclebjeeaaaaW.PrintLast Go.Proofs.YtlklclebjeeaaaaW.PrintMore
attribute [local go_sem] max2_int min2_int max_two min_two max_three min_three max_four min_four   -- for this text's walks alone
set_option linter.unusedVariables false
set_option linter.unusedSimpArgs false

/-! ### laws_markText: function 54 -/
def laws_markText.l0 : Nat → Int → ByteArray → Option (ByteArray)
  | 0, _, _ => none
  | k + 1, x0, x3 => if x0 > 0 then ((some (([(wrap64 (48 + (Int.tmod x0 10))) % 256] : List Int) : List Int)).bind fun y196 => (if (strOfNums y196).size + x3.size ≤ 9223372036854775807 then (laws_markText.l0 k (wrap64 (Int.tdiv x0 10)) ((strOfNums y196) ++ x3)) else (none))) else (if 1 + x3.size ≤ 9223372036854775807 then (some ((⟨#[109]⟩ : ByteArray) ++ x3)) else (none))
def laws_markText.f (k : Nat) (a0 : Int) : Option (ByteArray) := if a0 ≤ 0 then (some (⟨#[109, 48]⟩ : ByteArray)) else (laws_markText.l0 k a0 (⟨#[]⟩ : ByteArray))
theorem laws_markText.mono_l : ∀ k, (∀ y0 y1, LeO (laws_markText.l0 k y0 y1) (laws_markText.l0 (k + 1) y0 y1))
  | 0 => fun _ _ r h => by simp [laws_markText.l0] at h
  | k + 1 => by
    have ih0 := laws_markText.mono_l k
    · intro y0 y1
      unfold laws_markText.l0
      repeat' first
      | (with_reducible exact ih0 _ _)
      | (with_reducible exact LeO.refl _)
      | (with_reducible exact LeO.none _)
      | (with_reducible refine LeO.ite ?_ ?_)
      | (with_reducible refine LeO.bind ?_ (fun _ => ?_))
      | exact ih0 _ _
      | exact LeO.none _
      | refine LeO.ite ?_ ?_
      | refine LeO.bind ?_ (fun _ => ?_)
theorem laws_markText.mono : ∀ a0 k, LeO (laws_markText.f k a0) (laws_markText.f (k + 1) a0) := by
  intro a0 k
  have ih0 := laws_markText.mono_l k
  unfold laws_markText.f
  repeat' first
      | (with_reducible exact ih0 _ _)
      | (with_reducible exact LeO.refl _)
      | (with_reducible exact LeO.none _)
      | (with_reducible refine LeO.ite ?_ ?_)
      | (with_reducible refine LeO.bind ?_ (fun _ => ?_))
      | exact ih0 _ _
      | exact LeO.none _
      | refine LeO.ite ?_ ?_
      | refine LeO.bind ?_ (fun _ => ?_)
set_option maxHeartbeats 8000000 in
set_option maxRecDepth 100000 in
theorem laws_markText.calls (k : Nat) (a0 : Int) (r : ByteArray) (w : World) (h : laws_markText.f k a0 = some r) :
    Calls Try.prog 54 #[.int .i64 a0] w fun e w' => e = .returned (.string r) ∧ Below w.heap.size w w' := by
  have HB := Aside0.mk (Below.refl w.heap.size w)
  have H : (if a0 ≤ 0 then (some (⟨#[109, 48]⟩ : ByteArray)) else (laws_markText.l0 k a0 (⟨#[]⟩ : ByteArray))) = some r := h
  clear h
  by_cases c2 : a0 ≤ 0
  · rw [if_pos c2] at H
    have c2b0 : decide (a0 ≤ 0) = true := decide_eq_true c2
    clear c2
    obtain rfl := Option.some.inj H
    go_enter Try.func54, Try.ntmps54
    go_wp2
    go_ret
    exact ⟨by first | rfl | (simp [errW_none, errW_some] <;> rfl) | (simp [*, errW_none, errW_some] <;> rfl), by repeat (first | (with_reducible first | exact HB.out | apply below_alloc | apply pw_below_drewN | apply below_drew1) | exact HB.out)⟩
  · rw [if_neg c2] at H
    have c2b0 : decide (a0 ≤ 0) = false := decide_eq_false c2
    clear c2
    have H' := Aside0.mk H
    clear H
    go_enter Try.func54, Try.ntmps54
    go_wp2
    go_loopg [0, 3] k (fun kq v0 v3 w' => ∃ (x0_1 : Int) (x3_1 : ByteArray), v0 = .int .i64 x0_1 ∧ v3 = .string x3_1 ∧ Aside0 (laws_markText.l0 kq x0_1 x3_1 = some r) ∧ Aside0 (kq ≤ k) ∧ Aside0 (Below w.heap.size w w'))
    case atStart => exact ⟨(a0), ((⟨#[]⟩ : ByteArray)), (by first | rfl | (simp; done) | (simp [*]; done)), (by first | rfl | (simp; done) | (simp [*]; done)), H', ⟨Nat.le_refl _⟩, ⟨by repeat (first | (with_reducible first | exact HB.out | apply below_alloc | apply pw_below_drewN | apply below_drew1) | exact HB.out)⟩⟩
    case round =>
      clear H'
      try clear c2
      try clear c2b0
      try clear p2
      obtain ⟨x0_1, x3_1, rfl, rfl, HA, HK1, HB⟩ := hrel
      cases gk with
      | zero => exact absurd HA.out (by simp [laws_markText.l0])
      | succ k1 =>
        have H := HA.out
        clear HA
        simp only [laws_markText.l0] at H
        by_cases c3 : x0_1 > 0
        · rw [if_pos c3] at H
          have c3b0 : decide (0 < x0_1) = true := decide_eq_true c3
          clear c3
          obtain ⟨y196, hy196⟩ : ∃ y_ : List Int, y_ = (([(wrap64 (48 + (Int.tmod x0_1 10))) % 256] : List Int)) := ⟨_, rfl⟩
          replace H : (if (strOfNums y196).size + x3_1.size ≤ 9223372036854775807 then (laws_markText.l0 k1 (wrap64 (Int.tdiv x0_1 10)) ((strOfNums y196) ++ x3_1)) else (none)) = some r := by first | (rw [hy196]; with_reducible exact H) | (have H2_ := (Option.bind_some _ _).symm.trans H; rw [hy196]; with_reducible exact H2_) | (have H2_ := (Option.bind_some _ _).symm.trans H; with_reducible exact H2_) | with_reducible exact H | (rw [hy196]; exact H) | exact H
          have Ny196 := Aside0.mk hy196
          clear hy196
          by_cases c4 : (strOfNums y196).size + x3_1.size ≤ 9223372036854775807
          · rw [if_pos c4] at H
            have c4b0 := eq_true c4
            have c4b1 : decide ((strOfNums y196).size + x3_1.size ≤ 9223372036854775807) = true := decide_eq_true c4
            try have c4b2 : (9223372036854775807 < (strOfNums y196).size + x3_1.size) = False := eq_false (Nat.not_lt.2 c4)
            have H' := Aside0.mk H
            clear H
            go_wp2_with (first | ((with_reducible refine gate_dst (N := 12) rfl ?_); refine Kd.R_lit (Kd.int .u8) _ 5 ?hg (N := 12) ?hd (xs := ([(wrap64 (48 + (Int.tmod x0_1 10))) % 256] : List Int)) (inner := [.int .u8 ((wrap64 (48 + (Int.tmod x0_1 10))) % 256)]) (ok := fun _ => True) (okp := fun _ => True) ?hr ?hp (fun _ hk => hk) trivial (Below.refl _ _) (Nat.le_refl _) (by simp) ?_; (case hd => rfl); (case hg => rfl); (case hr => first | (go_simp; done) | (go_simp; rfl)); (case hp => exact (Reps.one (show Kd.M (Kd.int .u8) _ _ _ ((wrap64 (48 + (Int.tmod x0_1 10))) % 256) [.int .u8 ((wrap64 (48 + (Int.tmod x0_1 10))) % 256)] from rfl) (Reps.none _ _))); intro v197 w5 ho6 hb hg_ hnew_; clear hg_ hnew_; (first | rw [← Ny196.out] at ho6 | (simp only [Int.reduceToNat] at ho6; rw [← Ny196.out] at ho6)); have n0_ := Aside0.mk (Kd.R_lower ho6 (below_size (by repeat (first | (with_reducible first | exact HB.out | apply below_alloc | apply pw_below_drewN | apply below_drew1) | exact HB.out)))); have n1_ := Aside0.mk (below_step (by repeat (first | (with_reducible first | exact HB.out | apply below_alloc | apply pw_below_drewN | apply below_drew1) | exact HB.out)) hb); clear HB; have HO198 := n0_; have HB := n1_; clear n0_ n1_; clear hb ho6; have hcv7 := own_string (P := Try.prog) Try.underlying99 Try.underlying5 Try.underlying9 (Kd.own_of_R HO198.out)))
            go_roundg k1
            case measure => have := HK1.out; omega
            case rel => exact ⟨(wrap64 (Int.tdiv x0_1 10)), ((strOfNums y196) ++ x3_1), (by first | rfl | (simp; done) | (simp [*]; done)), (by first | rfl | (simp; done) | (simp [*]; done)), H', ⟨by have := HK1.out; omega⟩, ⟨by repeat (first | (with_reducible first | exact HB.out | apply below_alloc | apply pw_below_drewN | apply below_drew1) | exact HB.out)⟩⟩
          · rw [if_neg c4] at H
            exact absurd H (by simp)
        · rw [if_neg c3] at H
          have c3b0 : decide (0 < x0_1) = false := decide_eq_false c3
          clear c3
          by_cases c8 : 1 + x3_1.size ≤ 9223372036854775807
          · rw [if_pos c8] at H
            have c8b0 := eq_true c8
            have c8b1 : decide (1 + x3_1.size ≤ 9223372036854775807) = true := decide_eq_true c8
            try have c8b2 : (9223372036854775807 < 1 + x3_1.size) = False := eq_false (Nat.not_lt.2 c8)
            obtain rfl := Option.some.inj H
            go_wp2
            go_ret
            exact ⟨by first | rfl | (simp [errW_none, errW_some] <;> rfl) | (simp [*, errW_none, errW_some] <;> rfl), by repeat (first | (with_reducible first | exact HB.out | apply below_alloc | apply pw_below_drewN | apply below_drew1) | exact HB.out)⟩
          · rw [if_neg c8] at H
            exact absurd H (by simp)

/-! ### laws_heldIntS: function 22 -/
def laws_heldIntS.l0 : Nat → List Int → Int → Int → Option (Int)
  | 0, _, _, _ => none
  | k + 1, x0, x1, x5 => if x5 < (x0.length : Int) then (if 0 ≤ x5 then (if (rd x0 x5) = x1 then (laws_heldIntS.l0 k x0 (wrap64 (x1 + 1)) (wrap64 (x5 + 1))) else (some (-1))) else (none)) else (some x1)
def laws_heldIntS.f (k : Nat) (l0 : List Int) (a1 : Int) : Option (Int) := laws_heldIntS.l0 k l0 a1 0
theorem laws_heldIntS.mono_l : ∀ k, (∀ y0 y1 y2, LeO (laws_heldIntS.l0 k y0 y1 y2) (laws_heldIntS.l0 (k + 1) y0 y1 y2))
  | 0 => fun _ _ _ r h => by simp [laws_heldIntS.l0] at h
  | k + 1 => by
    have ih0 := laws_heldIntS.mono_l k
    · intro y0 y1 y2
      unfold laws_heldIntS.l0
      repeat' first
      | (with_reducible exact ih0 _ _ _)
      | (with_reducible exact LeO.refl _)
      | (with_reducible exact LeO.none _)
      | (with_reducible refine LeO.ite ?_ ?_)
      | (with_reducible refine LeO.bind ?_ (fun _ => ?_))
      | exact ih0 _ _ _
      | exact LeO.none _
      | refine LeO.ite ?_ ?_
      | refine LeO.bind ?_ (fun _ => ?_)
theorem laws_heldIntS.mono : ∀ a0 a1 k, LeO (laws_heldIntS.f k a0 a1) (laws_heldIntS.f (k + 1) a0 a1) := by
  intro a0 a1 k
  have ih0 := laws_heldIntS.mono_l k
  unfold laws_heldIntS.f
  repeat' first
      | (with_reducible exact ih0 _ _ _)
      | (with_reducible exact LeO.refl _)
      | (with_reducible exact LeO.none _)
      | (with_reducible refine LeO.ite ?_ ?_)
      | (with_reducible refine LeO.bind ?_ (fun _ => ?_))
      | exact ih0 _ _ _
      | exact LeO.none _
      | refine LeO.ite ?_ ?_
      | refine LeO.bind ?_ (fun _ => ?_)
set_option maxHeartbeats 8000000 in
set_option maxRecDepth 100000 in
theorem laws_heldIntS.calls (k : Nat) (A0 : Option Addr) (c0 : Nat) (l0 : List Int) (a1 : Int) (r : Int) (w : World) (hr0 : Kd.C (Kd.int .i64) w A0 l0.length l0) (hc0 : l0.length ≤ c0) (h : laws_heldIntS.f k l0 a1 = some r) :
    Calls Try.prog 22 #[.slice A0 l0.length c0, .int .i64 a1] w fun e w' => e = .returned (.int .i64 r) ∧ Drawn0 w w' := by
  have HR0 := Aside0.mk hr0
  have HC0 := Aside0.mk hc0
  clear hr0 hc0
  have H : (laws_heldIntS.l0 k l0 a1 0) = some r := h
  clear h
  have H' := Aside0.mk H
  clear H
  go_enter Try.func22, Try.ntmps22
  go_wp2
  go_loopg [1, 5] k (fun kq v1 v5 w' => ∃ (x1_1 : Int) (x5_1 : Int), v1 = .int .i64 x1_1 ∧ v5 = .int .i64 x5_1 ∧ Aside0 (laws_heldIntS.l0 kq l0 x1_1 x5_1 = some r) ∧ Aside0 (kq ≤ k) ∧ Drawn0 w w')
  case atStart => exact ⟨(a1), (0), (by first | rfl | (simp; done) | (simp [*]; done)), (by first | rfl | (simp; done) | (simp [*]; done)), H', ⟨Nat.le_refl _⟩, by repeat (first | exact Drawn0.refl _ | apply Drawn0.step)⟩
  case round =>
    clear H'
    try clear c2
    try clear p2
    obtain ⟨x1_1, x5_1, rfl, rfl, HA, HK1, ⟨m1, rfl⟩⟩ := hrel
    cases gk with
    | zero => exact absurd HA.out (by simp [laws_heldIntS.l0])
    | succ k1 =>
      have H := HA.out
      clear HA
      simp only [laws_heldIntS.l0] at H
      by_cases c3 : x5_1 < (l0.length : Int)
      · rw [if_pos c3] at H
        have c3b0 : decide (x5_1 < (l0.length : Int)) = true := decide_eq_true c3
        clear c3
        by_cases c4 : 0 ≤ x5_1
        · rw [if_pos c4] at H
          have c4b0 : decide (0 ≤ x5_1) = true := decide_eq_true c4
          clear c4
          by_cases c5 : (rd l0 x5_1) = x1_1
          · rw [if_pos c5] at H
            have c5b0 : ((rd l0 x5_1) == x1_1) = true := beq_iff_eq.mpr c5
            have c5b1 : ((rd l0 x5_1) != x1_1) = false := bne_eq_false_iff_eq.mpr c5
            clear c5
            have H' := Aside0.mk H
            clear H
            have p203 : 0 ≤ (x5_1 : Int) := of_decide_eq_true (by first | (with_reducible assumption) | assumption)
            have q203 : x5_1 < (l0.length : Int) := of_decide_eq_true (by first | (with_reducible assumption) | assumption)
            obtain ⟨ad203, e203, hx203_0⟩ := Kd.at_int HR0.out x5_1 p203 q203
            cases e203
            replace p203 := eq_true p203
            replace q203 := eq_true q203
            go_wp2
            go_roundg k1
            case measure => have := HK1.out; omega
            case rel => exact ⟨(wrap64 (x1_1 + 1)), (wrap64 (x5_1 + 1)), (by first | rfl | (simp; done) | (simp [*]; done)), (by first | rfl | (simp; done) | (simp [*]; done)), H', ⟨by have := HK1.out; omega⟩, by repeat (first | exact Drawn0.refl _ | apply Drawn0.step)⟩
          · rw [if_neg c5] at H
            have c5b0 : ((rd l0 x5_1) == x1_1) = false := beq_eq_false_iff_ne.mpr c5
            have c5b1 : ((rd l0 x5_1) != x1_1) = true := bne_iff_ne.mpr c5
            obtain rfl := Option.some.inj H
            have p203 : 0 ≤ (x5_1 : Int) := of_decide_eq_true (by first | (with_reducible assumption) | assumption)
            have q203 : x5_1 < (l0.length : Int) := of_decide_eq_true (by first | (with_reducible assumption) | assumption)
            obtain ⟨ad203, e203, hx203_0⟩ := Kd.at_int HR0.out x5_1 p203 q203
            cases e203
            replace p203 := eq_true p203
            replace q203 := eq_true q203
            go_wp2
            go_ret
            exact ⟨by first | rfl | (simp; done) | (simp [*]; done), by repeat (first | exact Drawn0.refl _ | apply Drawn0.step)⟩
        · rw [if_neg c4] at H
          exact absurd H (by simp)
      · rw [if_neg c3] at H
        have c3b0 : decide (x5_1 < (l0.length : Int)) = false := decide_eq_false c3
        clear c3
        obtain rfl := Option.some.inj H
        go_wp2
        go_ret
        exact ⟨by first | rfl | (simp; done) | (simp [*]; done), by repeat (first | exact Drawn0.refl _ | apply Drawn0.step)⟩

/-! ### spec_l3Copy: function 59 -/
def spec_l3Copy.l0 : Nat → List (S66) → List (S66) → Int → Option ((List (S66)))
  | 0, _, _, _ => none
  | k + 1, x0, x3, x4 => if x4 < (x0.length : Int) then (if 0 ≤ x4 then ((some (([] : List Int) : List Int)).bind fun y238 => (if y238.length + ((rd_T66 x0 x4).f1).length < 17592186044416 then (if x3.length < 2932031007402 then (spec_l3Copy.l0 k x0 (x3 ++ [(⟨(rd_T66 x0 x4).f0, (y238 ++ ((rd_T66 x0 x4).f1)), (rd_T66 x0 x4).f2⟩ : S66)]) (wrap64 (x4 + 1))) else (none)) else (none))) else (none)) else (some x3)
def spec_l3Copy.f (k : Nat) (l0 : List (S66)) : Option ((List (S66))) := spec_l3Copy.l0 k l0 (([] : List (S66))) 0
theorem spec_l3Copy.mono_l : ∀ k, (∀ y0 y1 y2, LeO (spec_l3Copy.l0 k y0 y1 y2) (spec_l3Copy.l0 (k + 1) y0 y1 y2))
  | 0 => fun _ _ _ r h => by simp [spec_l3Copy.l0] at h
  | k + 1 => by
    have ih0 := spec_l3Copy.mono_l k
    · intro y0 y1 y2
      unfold spec_l3Copy.l0
      repeat' first
      | (with_reducible exact ih0 _ _ _)
      | (with_reducible exact LeO.refl _)
      | (with_reducible exact LeO.none _)
      | (with_reducible refine LeO.ite ?_ ?_)
      | (with_reducible refine LeO.bind ?_ (fun _ => ?_))
      | exact ih0 _ _ _
      | exact LeO.none _
      | refine LeO.ite ?_ ?_
      | refine LeO.bind ?_ (fun _ => ?_)
theorem spec_l3Copy.mono : ∀ a0 k, LeO (spec_l3Copy.f k a0) (spec_l3Copy.f (k + 1) a0) := by
  intro a0 k
  have ih0 := spec_l3Copy.mono_l k
  unfold spec_l3Copy.f
  repeat' first
      | (with_reducible exact ih0 _ _ _)
      | (with_reducible exact LeO.refl _)
      | (with_reducible exact LeO.none _)
      | (with_reducible refine LeO.ite ?_ ?_)
      | (with_reducible refine LeO.bind ?_ (fun _ => ?_))
      | exact ih0 _ _ _
      | exact LeO.none _
      | refine LeO.ite ?_ ?_
      | refine LeO.bind ?_ (fun _ => ?_)
set_option maxHeartbeats 8000000 in
set_option maxRecDepth 100000 in
theorem spec_l3Copy.calls (k : Nat) (A0 : Option Addr) (c0 : Nat) (l0 : List (S66)) (r : List (S66)) (w : World) (hr0 : Kd.C k66 w A0 l0.length l0) (hc0 : l0.length ≤ c0) (h : spec_l3Copy.f k l0 = some r) :
    Calls Try.prog 59 #[.slice A0 l0.length c0] w fun e w' => ∃ v0_ : Value, e = .returned (v0_) ∧ Kd.S k66 66 w' w.heap.size (fun _ => True) v0_ r ∧ Below w.heap.size w w' := by
  have hu66 := Try.underlying66
  have HR0 := Aside0.mk hr0
  have HC0 := Aside0.mk hc0
  clear hr0 hc0
  have HB := Aside0.mk (Below.refl w.heap.size w)
  have H : (spec_l3Copy.l0 k l0 (([] : List (S66))) 0) = some r := h
  clear h
  obtain ⟨y233, hy233⟩ : ∃ y_ : List (S66), y_ = (([] : List (S66))) := ⟨_, rfl⟩
  replace H : (spec_l3Copy.l0 k l0 y233 0) = some r := by first | (rw [hy233]; with_reducible exact H) | (have H2_ := (Option.bind_some _ _).symm.trans H; rw [hy233]; with_reducible exact H2_) | (have H2_ := (Option.bind_some _ _).symm.trans H; with_reducible exact H2_) | with_reducible exact H | (rw [hy233]; exact H) | exact H
  have Ny233 := Aside0.mk hy233
  clear hy233
  have H' := Aside0.mk H
  clear H
  go_enter Try.func59, Try.ntmps59
  go_wp2_with (first | ((with_reducible refine gate_dst (N := 6) rfl ?_); refine Kd.S_lit k66 _ 66 ?hg (N := 6) ?hd (xs := ([] : List (S66))) (inner := []) (ok := fun _ => True) (okp := fun _ => True) ?hr ?hp (fun _ hk => hk) trivial (Below.refl _ _) (Nat.le_refl _) (by simp) ?_; (case hd => rfl); (case hg => rfl); (case hr => first | (go_simp; done) | (go_simp; rfl)); (case hp => exact (Reps.none _ _)); intro v234 w2 ho3 hb hg_ hnew_; clear hg_ hnew_; (first | rw [← Ny233.out] at ho3 | (simp only [Int.reduceToNat] at ho3; rw [← Ny233.out] at ho3)); have n0_ := Aside0.mk (Kd.S_lower ho3 (below_size (by repeat (first | (with_reducible first | exact HB.out | apply below_alloc | apply pw_below_drewN | apply below_drew1) | exact HB.out)))); have n1_ := Aside0.mk (below_step (by repeat (first | (with_reducible first | exact HB.out | apply below_alloc | apply pw_below_drewN | apply below_drew1) | exact HB.out)) hb); clear HB; have HO235 := n0_; have HB := n1_; clear n0_ n1_; clear hb ho3))
  go_loopg [3, 4] k (fun kq v3 v4 w' => ∃ (x3_1 : List (S66)) (x4_1 : Int), v4 = .int .i64 x4_1 ∧ Aside0 (spec_l3Copy.l0 kq l0 x3_1 x4_1 = some r) ∧ Aside0 (kq ≤ k) ∧ Aside0 (Kd.S k66 66 w' w.heap.size (fun _ => True) v3 x3_1) ∧ Aside0 (Below w.heap.size w w'))
  case atStart => exact ⟨(y233), (0), (by first | rfl | (simp; done) | (simp [*]; done)), H', ⟨Nat.le_refl _⟩, ⟨by (with_reducible repeat (first | apply Kd.S_alloc | apply Kd.S_drewN | apply Kd.S_drew)); exact HO235.out⟩, ⟨by repeat (first | (with_reducible first | exact HB.out | apply below_alloc | apply pw_below_drewN | apply below_drew1) | exact HB.out)⟩⟩
  case round =>
    clear H'
    try clear p2
    obtain ⟨x3_1, x4_1, rfl, HA, HK1, HO_3, HB⟩ := hrel
    cases gk with
    | zero => exact absurd HA.out (by simp [spec_l3Copy.l0])
    | succ k1 =>
      have H := HA.out
      clear HA
      simp only [spec_l3Copy.l0] at H
      by_cases c4 : x4_1 < (l0.length : Int)
      · rw [if_pos c4] at H
        have c4b0 : decide (x4_1 < (l0.length : Int)) = true := decide_eq_true c4
        clear c4
        by_cases c5 : 0 ≤ x4_1
        · rw [if_pos c5] at H
          have c5b0 : decide (0 ≤ x4_1) = true := decide_eq_true c5
          clear c5
          obtain ⟨y238, hy238⟩ : ∃ y_ : List Int, y_ = (([] : List Int)) := ⟨_, rfl⟩
          replace H : (if y238.length + ((rd_T66 l0 x4_1).f1).length < 17592186044416 then (if x3_1.length < 2932031007402 then (spec_l3Copy.l0 k1 l0 (x3_1 ++ [(⟨(rd_T66 l0 x4_1).f0, (y238 ++ ((rd_T66 l0 x4_1).f1)), (rd_T66 l0 x4_1).f2⟩ : S66)]) (wrap64 (x4_1 + 1))) else (none)) else (none)) = some r := by first | (rw [hy238]; with_reducible exact H) | (have H2_ := (Option.bind_some _ _).symm.trans H; rw [hy238]; with_reducible exact H2_) | (have H2_ := (Option.bind_some _ _).symm.trans H; with_reducible exact H2_) | with_reducible exact H | (rw [hy238]; exact H) | exact H
          have Ny238 := Aside0.mk hy238
          clear hy238
          by_cases c6 : y238.length + ((rd_T66 l0 x4_1).f1).length < 17592186044416
          · rw [if_pos c6] at H
            have LMc6 := Aside0.mk c6
            clear c6
            obtain ⟨y241, hy241⟩ : ∃ y_ : List Int, y_ = (y238 ++ ((rd_T66 l0 x4_1).f1)) := ⟨_, rfl⟩
            replace H : (if x3_1.length < 2932031007402 then (spec_l3Copy.l0 k1 l0 (x3_1 ++ [(⟨(rd_T66 l0 x4_1).f0, y241, (rd_T66 l0 x4_1).f2⟩ : S66)]) (wrap64 (x4_1 + 1))) else (none)) = some r := by first | (rw [hy241]; with_reducible exact H) | (have H2_ := (Option.bind_some _ _).symm.trans H; rw [hy241]; with_reducible exact H2_) | (have H2_ := (Option.bind_some _ _).symm.trans H; with_reducible exact H2_) | with_reducible exact H | (rw [hy241]; exact H) | exact H
            have Ny241 := Aside0.mk hy241
            clear hy241
            by_cases c7 : x3_1.length < 2932031007402
            · rw [if_pos c7] at H
              have LMc7 := Aside0.mk c7
              clear c7
              obtain ⟨y244, hy244⟩ : ∃ y_ : List (S66), y_ = (x3_1 ++ [(⟨(rd_T66 l0 x4_1).f0, y241, (rd_T66 l0 x4_1).f2⟩ : S66)]) := ⟨_, rfl⟩
              replace H : (spec_l3Copy.l0 k1 l0 y244 (wrap64 (x4_1 + 1))) = some r := by first | (rw [hy244]; with_reducible exact H) | (have H2_ := (Option.bind_some _ _).symm.trans H; rw [hy244]; with_reducible exact H2_) | (have H2_ := (Option.bind_some _ _).symm.trans H; with_reducible exact H2_) | with_reducible exact H | (rw [hy244]; exact H) | exact H
              have Ny244 := Aside0.mk hy244
              clear hy244
              have H' := Aside0.mk H
              clear H
              have p236 : 0 ≤ (x4_1 : Int) := of_decide_eq_true (by first | (with_reducible assumption) | assumption)
              have q236 : x4_1 < (l0.length : Int) := of_decide_eq_true (by first | (with_reducible assumption) | assumption)
              obtain ⟨ad236, A236_1, c236_1, e236, hx236_0, hx236_1, hx236_2, hl236_1, hi236_1⟩ := at_T66 HR0.out x4_1 p236 q236
              cases e236
              replace hx236_0 := (HB.out.cell (World.block_lt_of_cell? w _ hx236_0)).trans hx236_0
              replace hx236_1 := (HB.out.cell (World.block_lt_of_cell? w _ hx236_1)).trans hx236_1
              replace hx236_2 := (HB.out.cell (World.block_lt_of_cell? w _ hx236_2)).trans hx236_2
              have HR236_1 := Aside0.mk hi236_1
              have HC236_1 := Aside0.mk hl236_1
              clear hi236_1 hl236_1
              replace p236 := eq_true p236
              replace q236 := eq_true q236
              go_wp2_with (first | ((with_reducible refine gate_dst (N := 5) rfl ?_); refine box_event ?hg (N := 5) ?hd (cs := #[.string (⟨#[]⟩ : ByteArray), .slice none 0 0, .int .i64 0]) (t := 66) ?hr ?_; (case hd => rfl); (case hg => rfl); (case hr => first | (go_simp; done) | (go_simp; rfl)); intro gb237 hg w8 hbox hb; have n0_ := Aside0.mk (Kd.S_below (Kd.S_elderB (by (with_reducible repeat (first | apply Kd.S_alloc | apply Kd.S_drewN | apply Kd.S_drew)); exact HO_3.out) gb237 (Nat.le_of_eq hg.symm)) hb); have n1_ := Aside0.mk (below_step (by repeat (first | (with_reducible first | exact HB.out | apply below_alloc | apply pw_below_drewN | apply below_drew1) | exact HB.out)) hb); have n2_ := Aside0.mk (hbox); have n3_ := Aside0.mk ((by rw [hg]; exact (below_size (by repeat (first | (with_reducible first | exact HB.out | apply below_alloc | apply pw_below_drewN | apply below_drew1) | exact HB.out))) : w.heap.size ≤ gb237)); have n4_ := Aside0.mk ((by rw [hg]; exact (below_size (by repeat (first | (with_reducible first | exact HB.out | apply below_alloc | apply pw_below_drewN | apply below_drew1) | exact HB.out))) : w.heap.size ≤ gb237)); clear HO_3; clear HB; have HO_3 := n0_; have HB := n1_; have BK237 := n2_; have GW237 := n3_; have GE237 := n4_; clear n0_ n1_ n2_ n3_ n4_; clear hb hbox hg; have hcz9_0 : w8.cell? ⟨gb237, 0, none⟩ = some (.string (⟨#[]⟩ : ByteArray)) := (blk_cell BK237.out 0).trans rfl; have hcz9_1 : w8.cell? ⟨gb237, 1, none⟩ = some (.slice none 0 0) := (blk_cell BK237.out 1).trans rfl; have hcz9_2 : w8.cell? ⟨gb237, 2, none⟩ = some (.int .i64 0) := (blk_cell BK237.out 2).trans rfl; have hfz9_0 := blk_frozen BK237.out 0; have hfz9_1 := blk_frozen BK237.out 1; have hfz9_2 := blk_frozen BK237.out 2) | ((with_reducible refine gate_dst (N := 17) rfl ?_); refine Kd.R_lit (Kd.int .i64) _ 3 ?hg (N := 17) ?hd (xs := ([] : List Int)) (inner := []) (ok := fun _ => True) (okp := fun _ => True) ?hr ?hp (fun _ hk => hk) trivial (Below.refl _ _) (Nat.le_refl _) (by simp) ?_; (case hd => rfl); (case hg => rfl); (case hr => first | (go_simp; done) | (go_simp; rfl)); (case hp => exact (Reps.none _ _)); intro v239 w10 ho11 hb hg_ hnew_; clear hg_ hnew_; (first | rw [← Ny238.out] at ho11 | (simp only [Int.reduceToNat] at ho11; rw [← Ny238.out] at ho11)); have n0_ := Aside0.mk (Kd.S_elder' (by (with_reducible repeat (first | apply Kd.S_alloc | apply Kd.S_drewN | apply Kd.S_drew)); exact (Kd.S_mono (Kd.S_far (p := ⟨gb237, 2, none⟩) (Kd.S_far (p := ⟨gb237, 1, none⟩) (Kd.S_far (p := ⟨gb237, 0, none⟩) (Kd.S_mono HO_3.out (fun k_ hk => (⟨hk, hk.2⟩ : _ ∧ k_ ≠ gb237))) (fun _ hk => hk.2) (.string ((rd_T66 l0 x4_1).f0))) (fun _ hk => hk.2) (.slice A236_1 ((rd_T66 l0 x4_1).f1).length c236_1)) (fun _ hk => hk.2) (.int .i64 ((rd_T66 l0 x4_1).f2))) (fun _ h_ => h_.1))) (Kd.R_base ho11) hb); have n1_ := Aside0.mk (Kd.R_lower ho11 (below_size (by repeat (first | (with_reducible first | exact HB.out | apply below_alloc | apply pw_below_drewN | apply below_drew1 | refine below_set ?_ GE237.out) | exact HB.out)))); have n2_ := Aside0.mk (blk_below (g := gb237) (o := .cells #[.string ((rd_T66 l0 x4_1).f0), .slice A236_1 ((rd_T66 l0 x4_1).f1).length c236_1, .int .i64 ((rd_T66 l0 x4_1).f2)] 66 (0, 0)) (by (with_reducible repeat (first | refine blk_drewN ?_ _ | refine blk_drew ?_ | refine blk_alloc ?_ _)); refine blk_put (cs := #[.string ((rd_T66 l0 x4_1).f0), .slice A236_1 ((rd_T66 l0 x4_1).f1).length c236_1, .int .i64 0]) ?_ 2 _ rfl; (with_reducible repeat (first | refine blk_drewN ?_ _ | refine blk_drew ?_ | refine blk_alloc ?_ _)); refine blk_put (cs := #[.string ((rd_T66 l0 x4_1).f0), .slice none 0 0, .int .i64 0]) ?_ 1 _ rfl; (with_reducible repeat (first | refine blk_drewN ?_ _ | refine blk_drew ?_ | refine blk_alloc ?_ _)); refine blk_put (cs := #[.string (⟨#[]⟩ : ByteArray), .slice none 0 0, .int .i64 0]) ?_ 0 _ rfl; (with_reducible repeat (first | refine blk_drewN ?_ _ | refine blk_drew ?_ | refine blk_alloc ?_ _)); exact BK237.out) hb); have n3_ := Aside0.mk (below_step (by repeat (first | (with_reducible first | exact HB.out | apply below_alloc | apply pw_below_drewN | apply below_drew1 | refine below_set ?_ GE237.out) | exact HB.out)) hb); clear HO_3; clear BK237; clear HB; have HO_3 := n0_; have HO240 := n1_; have BK237 := n2_; have HB := n3_; clear n0_ n1_ n2_ n3_; clear hb ho11; have hcz12_0 : w10.cell? ⟨gb237, 0, none⟩ = some (.string ((rd_T66 l0 x4_1).f0)) := (blk_cell BK237.out 0).trans rfl; have hcz12_1 : w10.cell? ⟨gb237, 1, none⟩ = some (.slice A236_1 ((rd_T66 l0 x4_1).f1).length c236_1) := (blk_cell BK237.out 1).trans rfl; have hcz12_2 : w10.cell? ⟨gb237, 2, none⟩ = some (.int .i64 ((rd_T66 l0 x4_1).f2)) := (blk_cell BK237.out 2).trans rfl; have hfz12_0 := blk_frozen BK237.out 0; have hfz12_1 := blk_frozen BK237.out 1; have hfz12_2 := blk_frozen BK237.out 2) | ((with_reducible refine gate_builtin (b := .append) (xs := #[.tmp 17, .tmp 19]) rfl ?_); at_builtin; refine Kd.R_append_rows (Kd.int .i64) (w0 := w) w.heap.size rfl (.tmp 17) (.tmp 19) 23 3 (.int .i64 0) 8 rfl Try.underlying23 info3 rfl (by decide) (by omega) v239 y238 ((rd_T66 l0 x4_1).f1) _ _ _ (fun _ => True) (fun _ => False) rfl rfl ?aO ?aR (fun _ _ h => h) (fun _ h => h.elim) ?aF ?aB ?aS ?aL ?_; (case aR => repeat (first | exact (Kd.C_below HR236_1.out HB.out) | (with_reducible refine Kd.C_alloc ?_ _) | (with_reducible refine Kd.C_drewN ?_ _) | (with_reducible refine Kd.C_drew ?_))); (case aB => exact (by repeat (first | (with_reducible first | exact HB.out | apply below_alloc | apply pw_below_drewN | apply below_drew1 | refine below_set ?_ GE237.out) | exact HB.out))); (case aF => exact (fun _ _ => trivial)); (case aO => exact (by (with_reducible repeat (first | apply Kd.R_alloc | apply Kd.R_drewN | apply Kd.R_drew)); exact HO240.out)); (case aS => exact (below_size (by repeat (first | (with_reducible first | exact HB.out | apply below_alloc | apply pw_below_drewN | apply below_drew1 | refine below_set ?_ GE237.out) | exact HB.out)))); (case aL => have := LMc6.out; omega); intro v242 w13 ho hb hg hat; rw [← Ny241.out] at ho; have n0_ := Aside0.mk (Kd.S_after (ok := (fun k_ => k_ ≠ gb237)) (by (with_reducible repeat (first | apply Kd.S_alloc | apply Kd.S_drewN | apply Kd.S_drew)); exact Kd.S_mono HO_3.out (fun _ hk => ⟨hk.1.2, hk.2⟩)) hg hat); have n1_ := Aside0.mk (blk_grown (g := gb237) (o := .cells #[.string ((rd_T66 l0 x4_1).f0), .slice A236_1 ((rd_T66 l0 x4_1).f1).length c236_1, .int .i64 ((rd_T66 l0 x4_1).f2)] 66 (0, 0)) (by (with_reducible repeat (first | refine blk_drewN ?_ _ | refine blk_drew ?_ | refine blk_alloc ?_ _)); exact BK237.out) hg (Kd.R_ne HO240.out BK237.out (by decide))); have n2_ := Aside0.mk (hb); have n3_ := Aside0.mk (ho); clear HO_3; clear BK237; clear HB; clear HO240; have HO_3 := n0_; have BK237 := n1_; have HB := n2_; have HO243 := n3_; clear n0_ n1_ n2_ n3_; clear ho hb hg hat; obtain ⟨Ao14, co14, eo14⟩ := Kd.R_slice HO243.out; subst eo14; have hcz15_0 : w13.cell? ⟨gb237, 0, none⟩ = some (.string ((rd_T66 l0 x4_1).f0)) := (blk_cell BK237.out 0).trans rfl; have hcz15_1 : w13.cell? ⟨gb237, 1, none⟩ = some (.slice A236_1 ((rd_T66 l0 x4_1).f1).length c236_1) := (blk_cell BK237.out 1).trans rfl; have hcz15_2 : w13.cell? ⟨gb237, 2, none⟩ = some (.int .i64 ((rd_T66 l0 x4_1).f2)) := (blk_cell BK237.out 2).trans rfl; have hfz15_0 := blk_frozen BK237.out 0; have hfz15_1 := blk_frozen BK237.out 1; have hfz15_2 := blk_frozen BK237.out 2) | ((with_reducible refine gate_store (t := 23) (p := 21) rfl ?_); refine store_event (t := 23) (p := 21) (v := ?vo_w16) (w1 := (w13.setCell ⟨gb237, 1, none⟩ (.slice Ao14 y241.length co14))) ?hg ?ho ?hn ?hr ?_; (case ho => rfl); (case hg => rfl); (case hn => rfl); (case hr => first | (go_simp; done) | (go_simp; rfl)); intro w16 hw; have n0_ : Aside0 (Kd.S k66 66 w16 w.heap.size (fun k_ => some k_ ≠ (.slice Ao14 y241.length co14 : Value).ownBlock ∧ k_ ≠ gb237) u3 x3_1) := ⟨(by rw [hw]; exact (by (with_reducible repeat (first | apply Kd.S_alloc | apply Kd.S_drewN | apply Kd.S_drew)); exact Kd.S_mono (Kd.S_far (p := ⟨gb237, 1, none⟩) (Kd.S_mono HO_3.out (fun k_ hk => (⟨hk, hk.1⟩ : _ ∧ k_ ≠ gb237))) (fun _ hk => hk.2) (.slice Ao14 y241.length co14)) (fun _ hk => ⟨hk.1.2, hk.1.1⟩)))⟩; have n1_ : Aside0 (Kd.R (Kd.int .i64) 3 w16 w.heap.size (fun _ => True) (.slice Ao14 y241.length co14) y241) := ⟨(by rw [hw]; exact (by (with_reducible repeat (first | apply Kd.R_alloc | apply Kd.R_drewN | apply Kd.R_drew)); exact Kd.R_mono (Kd.R_far (p := ⟨gb237, 1, none⟩) (Kd.R_types HO243.out BK237.out (by decide)) (fun _ hk => hk.2) (.slice Ao14 y241.length co14)) (fun _ hk => trivial)))⟩; have n2_ : Aside0 (w16.heap[gb237]? = some (.cells #[.string ((rd_T66 l0 x4_1).f0), .slice Ao14 y241.length co14, .int .i64 ((rd_T66 l0 x4_1).f2)] 66 (0, 0))) := ⟨(by rw [hw]; exact (by (with_reducible repeat (first | refine blk_drewN ?_ _ | refine blk_drew ?_ | refine blk_alloc ?_ _)); refine blk_put (cs := #[.string ((rd_T66 l0 x4_1).f0), .slice A236_1 ((rd_T66 l0 x4_1).f1).length c236_1, .int .i64 ((rd_T66 l0 x4_1).f2)]) ?_ 1 _ rfl; (with_reducible repeat (first | refine blk_drewN ?_ _ | refine blk_drew ?_ | refine blk_alloc ?_ _)); exact BK237.out))⟩; have n3_ : Aside0 (Below w.heap.size w w16) := ⟨(by rw [hw]; exact (by repeat (first | (with_reducible first | exact HB.out | apply below_alloc | apply pw_below_drewN | apply below_drew1 | refine below_set ?_ GE237.out) | exact HB.out)))⟩; clear hw; clear HO_3; clear HO243; clear BK237; clear HB; have HO_3 := n0_; have HO243 := n1_; have BK237 := n2_; have HB := n3_; clear n0_ n1_ n2_ n3_; have hcz17_0 : w16.cell? ⟨gb237, 0, none⟩ = some (.string ((rd_T66 l0 x4_1).f0)) := (blk_cell BK237.out 0).trans rfl; have hcz17_1 : w16.cell? ⟨gb237, 1, none⟩ = some (.slice Ao14 y241.length co14) := (blk_cell BK237.out 1).trans rfl; have hcz17_2 : w16.cell? ⟨gb237, 2, none⟩ = some (.int .i64 ((rd_T66 l0 x4_1).f2)) := (blk_cell BK237.out 2).trans rfl; have hfz17_0 := blk_frozen BK237.out 0; have hfz17_1 := blk_frozen BK237.out 1; have hfz17_2 := blk_frozen BK237.out 2) | ((with_reducible refine gate_builtin (b := .append) (xs := #[.tmp 22, .tmp 24]) rfl ?_); at_builtin; refine Kd.S_append k66 (w0 := w) w.heap.size rfl (.tmp 22) (.tmp 24) 30 66 (.agg #[(.string ⟨#[]⟩), (.slice none 0 0), (.int .i64 0)]) 48 rfl Try.underlying30 info66 rfl (by decide) (by omega) u3 x3_1 (⟨(rd_T66 l0 x4_1).f0, y241, (rd_T66 l0 x4_1).f2⟩ : S66) [.string ((rd_T66 l0 x4_1).f0), .slice Ao14 y241.length co14, .int .i64 ((rd_T66 l0 x4_1).f2)] (fun k_ => k_ ≠ gb237) (fun k_ => some k_ = (.slice Ao14 y241.length co14 : Value).ownBlock) rfl rfl ?aP (fun k_ hk_ => ((Kd.R_mono (ok' := fun k_ => ((fun k_ => k_ ≠ gb237)) k_ ∧ some k_ ≠ (u3 : Value).ownBlock) (Kd.R_types (Kd.R_apart' (HO243.out) (Kd.S_typed HO_3.out) (by decide)) BK237.out (by decide)) (fun k_ hk => ⟨hk.2, hk.1.2⟩))).1 k_ hk_.symm) ?aF ?aO ?aB ?aS ?aL ?_; (case aP => exact k66_mkM _ _ _ (⟨(rd_T66 l0 x4_1).f0, y241, (rd_T66 l0 x4_1).f2⟩ : S66) (Kd.R_mono (Kd.R_tight rfl (Kd.R_mono (ok' := fun k_ => ((fun k_ => k_ ≠ gb237)) k_ ∧ some k_ ≠ (u3 : Value).ownBlock) (Kd.R_types (Kd.R_apart' (HO243.out) (Kd.S_typed HO_3.out) (by decide)) BK237.out (by decide)) (fun k_ hk => ⟨hk.2, hk.1.2⟩))) (fun _ h_ => h_))); (case aB => exact (by repeat (first | (with_reducible first | exact HB.out | apply below_alloc | apply pw_below_drewN | apply below_drew1 | refine below_set ?_ GE237.out) | exact HB.out))); (case aF => exact (fun k_ hk => Kd.freshB (g := gb237) (o := .cells #[.string ((rd_T66 l0 x4_1).f0), .slice Ao14 y241.length co14, .int .i64 ((rd_T66 l0 x4_1).f2)] 66 (0, 0)) (by (with_reducible repeat (first | refine blk_drewN ?_ _ | refine blk_drew ?_ | refine blk_alloc ?_ _)); exact BK237.out) k_ hk)); (case aO => exact (by (with_reducible repeat (first | apply Kd.S_alloc | apply Kd.S_drewN | apply Kd.S_drew)); exact Kd.S_mono HO_3.out (fun k_ hk => ⟨hk.2, fun e_ => hk.1 e_⟩))); (case aS => exact (below_size (by repeat (first | (with_reducible first | exact HB.out | apply below_alloc | apply pw_below_drewN | apply below_drew1 | refine below_set ?_ GE237.out) | exact HB.out)))); (case aL => have := LMc7.out; omega); intro v245 w18 ho hb hg hat; rw [← Ny244.out] at ho; have n0_ := Aside0.mk (blk_grown (g := gb237) (o := .cells #[.string ((rd_T66 l0 x4_1).f0), .slice Ao14 y241.length co14, .int .i64 ((rd_T66 l0 x4_1).f2)] 66 (0, 0)) (by (with_reducible repeat (first | refine blk_drewN ?_ _ | refine blk_drew ?_ | refine blk_alloc ?_ _)); exact BK237.out) hg (Kd.S_away HO_3.out (fun _ hk => hk.2))); have n1_ := Aside0.mk (hb); have n2_ := Aside0.mk (ho); clear BK237; clear HB; clear HO_3; clear HO243; have BK237 := n0_; have HB := n1_; have HO246 := n2_; clear n0_ n1_ n2_; clear ho hb hg hat))
              go_roundg k1
              case measure => have := HK1.out; omega
              case rel => exact ⟨(y244), (wrap64 (x4_1 + 1)), (by first | rfl | (simp; done) | (simp [*]; done)), H', ⟨by have := HK1.out; omega⟩, ⟨by (with_reducible repeat (first | apply Kd.S_alloc | apply Kd.S_drewN | apply Kd.S_drew)); exact Kd.S_mono HO246.out (fun _ hk => trivial)⟩, ⟨by repeat (first | (with_reducible first | exact HB.out | apply below_alloc | apply pw_below_drewN | apply below_drew1 | refine below_set ?_ GE237.out) | exact HB.out)⟩⟩
            · rw [if_neg c7] at H
              exact absurd H (by simp)
          · rw [if_neg c6] at H
            exact absurd H (by simp)
        · rw [if_neg c5] at H
          exact absurd H (by simp)
      · rw [if_neg c4] at H
        have c4b0 : decide (x4_1 < (l0.length : Int)) = false := decide_eq_false c4
        clear c4
        obtain rfl := Option.some.inj H
        go_wp2
        go_ret
        exact ⟨_, by first | rfl | (simp [errW_none, errW_some] <;> rfl) | (simp [*, errW_none, errW_some] <;> rfl), by (with_reducible repeat (first | apply Kd.S_alloc | apply Kd.S_drewN | apply Kd.S_drew)); exact HO_3.out, by repeat (first | (with_reducible first | exact HB.out | apply below_alloc | apply pw_below_drewN | apply below_drew1) | exact HB.out)⟩

/-! ### spec_l4Dots: function 109 -/
def spec_l4Dots.f (a0_0 : Int) (a0_1 : ByteArray) (a0_2 : Int) (l0_3 : List Int) (l0_4 : List (S34)) : Option (Bool) := if a0_0 = 1 then (some (a0_1.toList == ([46, 46, 46] : List UInt8))) else (some false)
set_option maxHeartbeats 8000000 in
set_option maxRecDepth 100000 in
theorem spec_l4Dots.calls (a0_0 : Int) (a0_1 : ByteArray) (a0_2 : Int) (A0_3 : Option Addr) (c0_3 : Nat) (l0_3 : List Int) (A0_4 : Option Addr) (c0_4 : Nat) (l0_4 : List (S34)) (r : Bool) (w : World) (hr0_3 : Kd.C (Kd.int .i64) w A0_3 l0_3.length l0_3) (hc0_3 : l0_3.length ≤ c0_3) (hr0_4 : Kd.C k34 w A0_4 l0_4.length l0_4) (hc0_4 : l0_4.length ≤ c0_4) (h : spec_l4Dots.f a0_0 a0_1 a0_2 l0_3 l0_4 = some r) :
    Calls Try.prog 109 #[.agg #[.int .i64 a0_0, .string a0_1, .int .i64 a0_2, .slice A0_3 l0_3.length c0_3, .slice A0_4 l0_4.length c0_4]] w fun e w' => e = .returned (.bool r) ∧ Below w.heap.size w w' := by
  have hu34 := Try.underlying34
  have HR0_3 := Aside0.mk hr0_3
  have HC0_3 := Aside0.mk hc0_3
  clear hr0_3 hc0_3
  have HR0_4 := Aside0.mk hr0_4
  have HC0_4 := Aside0.mk hc0_4
  clear hr0_4 hc0_4
  have HB := Aside0.mk (Below.refl w.heap.size w)
  have H : (if a0_0 = 1 then (some (a0_1.toList == ([46, 46, 46] : List UInt8))) else (some false)) = some r := h
  clear h
  by_cases c2 : a0_0 = 1
  · rw [if_pos c2] at H
    have c2b0 : (a0_0 == 1) = true := beq_iff_eq.mpr c2
    have c2b1 : (a0_0 != 1) = false := bne_eq_false_iff_eq.mpr c2
    clear c2
    obtain rfl := Option.some.inj H
    go_enter Try.func109, Try.ntmps109
    go_wp2_with (first | ((with_reducible refine gate_dst (N := 1) rfl ?_); refine box_event ?hg (N := 1) ?hd (cs := #[.int .i64 a0_0, .string a0_1, .int .i64 a0_2, .slice A0_3 l0_3.length c0_3, .slice A0_4 l0_4.length c0_4]) (t := 34) ?hr ?_; (case hd => rfl); (case hg => rfl); (case hr => first | (go_simp; done) | (go_simp; rfl)); intro gb370 hg w3 hbox hb; have n0_ := Aside0.mk (below_step (by repeat (first | (with_reducible first | exact HB.out | apply below_alloc | apply pw_below_drewN | apply below_drew1) | exact HB.out)) hb); have n1_ := Aside0.mk (hbox); have n2_ := Aside0.mk ((by rw [hg]; exact (below_size (by repeat (first | (with_reducible first | exact HB.out | apply below_alloc | apply pw_below_drewN | apply below_drew1) | exact HB.out))) : w.heap.size ≤ gb370)); have n3_ := Aside0.mk ((by rw [hg]; exact (below_size (by repeat (first | (with_reducible first | exact HB.out | apply below_alloc | apply pw_below_drewN | apply below_drew1) | exact HB.out))) : w.heap.size ≤ gb370)); clear HB; have HB := n0_; have BK370 := n1_; have GW370 := n2_; have GE370 := n3_; clear n0_ n1_ n2_ n3_; clear hb hbox hg; have hcz4_0 : w3.cell? ⟨gb370, 0, none⟩ = some (.int .i64 a0_0) := (blk_cell BK370.out 0).trans rfl; have hcz4_1 : w3.cell? ⟨gb370, 1, none⟩ = some (.string a0_1) := (blk_cell BK370.out 1).trans rfl; have hcz4_2 : w3.cell? ⟨gb370, 2, none⟩ = some (.int .i64 a0_2) := (blk_cell BK370.out 2).trans rfl; have hcz4_3 : w3.cell? ⟨gb370, 3, none⟩ = some (.slice A0_3 l0_3.length c0_3) := (blk_cell BK370.out 3).trans rfl; have hcz4_4 : w3.cell? ⟨gb370, 4, none⟩ = some (.slice A0_4 l0_4.length c0_4) := (blk_cell BK370.out 4).trans rfl; have hfz4_0 := blk_frozen BK370.out 0; have hfz4_1 := blk_frozen BK370.out 1; have hfz4_2 := blk_frozen BK370.out 2; have hfz4_3 := blk_frozen BK370.out 3; have hfz4_4 := blk_frozen BK370.out 4))
    go_ret
    exact ⟨by first | rfl | (simp [errW_none, errW_some] <;> rfl) | (simp [*, errW_none, errW_some] <;> rfl), by repeat (first | (with_reducible first | exact HB.out | apply below_alloc | apply pw_below_drewN | apply below_drew1 | refine below_set ?_ GE370.out) | exact HB.out)⟩
  · rw [if_neg c2] at H
    have c2b0 : (a0_0 == 1) = false := beq_eq_false_iff_ne.mpr c2
    have c2b1 : (a0_0 != 1) = true := bne_iff_ne.mpr c2
    obtain rfl := Option.some.inj H
    go_enter Try.func109, Try.ntmps109
    go_wp2_with (first | ((with_reducible refine gate_dst (N := 1) rfl ?_); refine box_event ?hg (N := 1) ?hd (cs := #[.int .i64 a0_0, .string a0_1, .int .i64 a0_2, .slice A0_3 l0_3.length c0_3, .slice A0_4 l0_4.length c0_4]) (t := 34) ?hr ?_; (case hd => rfl); (case hg => rfl); (case hr => first | (go_simp; done) | (go_simp; rfl)); intro gb370 hg w5 hbox hb; have n0_ := Aside0.mk (below_step (by repeat (first | (with_reducible first | exact HB.out | apply below_alloc | apply pw_below_drewN | apply below_drew1) | exact HB.out)) hb); have n1_ := Aside0.mk (hbox); have n2_ := Aside0.mk ((by rw [hg]; exact (below_size (by repeat (first | (with_reducible first | exact HB.out | apply below_alloc | apply pw_below_drewN | apply below_drew1) | exact HB.out))) : w.heap.size ≤ gb370)); have n3_ := Aside0.mk ((by rw [hg]; exact (below_size (by repeat (first | (with_reducible first | exact HB.out | apply below_alloc | apply pw_below_drewN | apply below_drew1) | exact HB.out))) : w.heap.size ≤ gb370)); clear HB; have HB := n0_; have BK370 := n1_; have GW370 := n2_; have GE370 := n3_; clear n0_ n1_ n2_ n3_; clear hb hbox hg; have hcz6_0 : w5.cell? ⟨gb370, 0, none⟩ = some (.int .i64 a0_0) := (blk_cell BK370.out 0).trans rfl; have hcz6_1 : w5.cell? ⟨gb370, 1, none⟩ = some (.string a0_1) := (blk_cell BK370.out 1).trans rfl; have hcz6_2 : w5.cell? ⟨gb370, 2, none⟩ = some (.int .i64 a0_2) := (blk_cell BK370.out 2).trans rfl; have hcz6_3 : w5.cell? ⟨gb370, 3, none⟩ = some (.slice A0_3 l0_3.length c0_3) := (blk_cell BK370.out 3).trans rfl; have hcz6_4 : w5.cell? ⟨gb370, 4, none⟩ = some (.slice A0_4 l0_4.length c0_4) := (blk_cell BK370.out 4).trans rfl; have hfz6_0 := blk_frozen BK370.out 0; have hfz6_1 := blk_frozen BK370.out 1; have hfz6_2 := blk_frozen BK370.out 2; have hfz6_3 := blk_frozen BK370.out 3; have hfz6_4 := blk_frozen BK370.out 4))
    go_ret
    exact ⟨by first | rfl | (simp [errW_none, errW_some] <;> rfl) | (simp [*, errW_none, errW_some] <;> rfl), by repeat (first | (with_reducible first | exact HB.out | apply below_alloc | apply pw_below_drewN | apply below_drew1 | refine below_set ?_ GE370.out) | exact HB.out)⟩

/-! ### spec_l4Shape: function 100 -/
mutual
def spec_l4Shape.l0 : Nat → Int → Int → Int → ByteArray → Int → List Int → List (S34) → Option (Bool)
  | 0, _, _, _, _, _, _, _ => none
  | k + 1, x3, x4, x401000, x401001, x401002, x401003, x401004 => if x4 < (x401004.length : Int) then (if 0 ≤ x4 then ((spec_l4Dots.f ((rd_T34 x401004 x4).f0) ((rd_T34 x401004 x4).f1) ((rd_T34 x401004 x4).f2) ((rd_T34 x401004 x4).f3) ((rd_T34 x401004 x4).f4)).bind fun t403 => (if t403 = true then (if x4 = 0 then (spec_l4Shape.j1 k (wrap64 (x3 + 1)) x4 true x401000 x401001 x401002 x401003 x401004) else (if 0 ≤ (wrap64 (x4 - 1)) then (if (wrap64 (x4 - 1)) < (x401004.length : Int) then ((spec_l4Dots.f ((rd_T34 x401004 (wrap64 (x4 - 1))).f0) ((rd_T34 x401004 (wrap64 (x4 - 1))).f1) ((rd_T34 x401004 (wrap64 (x4 - 1))).f2) ((rd_T34 x401004 (wrap64 (x4 - 1))).f3) ((rd_T34 x401004 (wrap64 (x4 - 1))).f4)).bind fun t405 => (spec_l4Shape.j1 k (wrap64 (x3 + 1)) x4 t405 x401000 x401001 x401002 x401003 x401004)) else (none)) else (none))) else ((spec_l4Shape.f k ((rd_T34 x401004 x4).f0) ((rd_T34 x401004 x4).f1) ((rd_T34 x401004 x4).f2) ((rd_T34 x401004 x4).f3) ((rd_T34 x401004 x4).f4)).bind fun t407 => (if t407 = true then (spec_l4Shape.l0 k x3 (wrap64 (x4 + 1)) x401000 x401001 x401002 x401003 x401004) else (some false))))) else (none)) else (some (decide (x3 ≤ 1)))
def spec_l4Shape.j1 : Nat → Int → Int → Bool → Int → ByteArray → Int → List Int → List (S34) → Option (Bool)
  | 0, _, _, _, _, _, _, _, _ => none
  | k + 1, x3, x4, x32, x401000, x401001, x401002, x401003, x401004 => if x32 = true then (some false) else (spec_l4Shape.l0 k x3 (wrap64 (x4 + 1)) x401000 x401001 x401002 x401003 x401004)
def spec_l4Shape.f : Nat → Int → ByteArray → Int → List Int → List (S34) → Option (Bool)
  | 0, _, _, _, _, _ => none
  | k + 1, a0_0, a0_1, a0_2, l0_3, l0_4 => (spec_l4Dots.f a0_0 a0_1 a0_2 l0_3 l0_4).bind fun t401 => (if t401 = true then (some false) else (spec_l4Shape.l0 k 0 0 a0_0 a0_1 a0_2 l0_3 l0_4))
end
theorem spec_l4Shape.mono_l : ∀ k, (∀ y0 y1 y2 y3 y4, LeO (spec_l4Shape.f k y0 y1 y2 y3 y4) (spec_l4Shape.f (k + 1) y0 y1 y2 y3 y4)) ∧ (∀ y0 y1 y2 y3 y4 y5 y6, LeO (spec_l4Shape.l0 k y0 y1 y2 y3 y4 y5 y6) (spec_l4Shape.l0 (k + 1) y0 y1 y2 y3 y4 y5 y6)) ∧ (∀ y0 y1 y2 y3 y4 y5 y6 y7, LeO (spec_l4Shape.j1 k y0 y1 y2 y3 y4 y5 y6 y7) (spec_l4Shape.j1 (k + 1) y0 y1 y2 y3 y4 y5 y6 y7))
  | 0 => ⟨fun _ _ _ _ _ r h => by simp [spec_l4Shape.f] at h, fun _ _ _ _ _ _ _ r h => by simp [spec_l4Shape.l0] at h, fun _ _ _ _ _ _ _ _ r h => by simp [spec_l4Shape.j1] at h⟩
  | k + 1 => by
    obtain ⟨ih0, ih1, ih2⟩ := spec_l4Shape.mono_l k
    refine ⟨?_, ?_, ?_⟩
    · intro y0 y1 y2 y3 y4
      unfold spec_l4Shape.f
      repeat' first
      | (with_reducible exact ih0 _ _ _ _ _)
      | (with_reducible exact ih1 _ _ _ _ _ _ _)
      | (with_reducible exact ih2 _ _ _ _ _ _ _ _)
      | (with_reducible exact LeO.refl _)
      | (with_reducible exact LeO.none _)
      | (with_reducible refine LeO.ite ?_ ?_)
      | (with_reducible refine LeO.bind ?_ (fun _ => ?_))
      | exact ih0 _ _ _ _ _
      | exact ih1 _ _ _ _ _ _ _
      | exact ih2 _ _ _ _ _ _ _ _
      | exact LeO.none _
      | refine LeO.ite ?_ ?_
      | refine LeO.bind ?_ (fun _ => ?_)
    · intro y0 y1 y2 y3 y4 y5 y6
      unfold spec_l4Shape.l0
      repeat' first
      | (with_reducible exact ih0 _ _ _ _ _)
      | (with_reducible exact ih1 _ _ _ _ _ _ _)
      | (with_reducible exact ih2 _ _ _ _ _ _ _ _)
      | (with_reducible exact LeO.refl _)
      | (with_reducible exact LeO.none _)
      | (with_reducible refine LeO.ite ?_ ?_)
      | (with_reducible refine LeO.bind ?_ (fun _ => ?_))
      | exact ih0 _ _ _ _ _
      | exact ih1 _ _ _ _ _ _ _
      | exact ih2 _ _ _ _ _ _ _ _
      | exact LeO.none _
      | refine LeO.ite ?_ ?_
      | refine LeO.bind ?_ (fun _ => ?_)
    · intro y0 y1 y2 y3 y4 y5 y6 y7
      unfold spec_l4Shape.j1
      repeat' first
      | (with_reducible exact ih0 _ _ _ _ _)
      | (with_reducible exact ih1 _ _ _ _ _ _ _)
      | (with_reducible exact ih2 _ _ _ _ _ _ _ _)
      | (with_reducible exact LeO.refl _)
      | (with_reducible exact LeO.none _)
      | (with_reducible refine LeO.ite ?_ ?_)
      | (with_reducible refine LeO.bind ?_ (fun _ => ?_))
      | exact ih0 _ _ _ _ _
      | exact ih1 _ _ _ _ _ _ _
      | exact ih2 _ _ _ _ _ _ _ _
      | exact LeO.none _
      | refine LeO.ite ?_ ?_
      | refine LeO.bind ?_ (fun _ => ?_)
theorem spec_l4Shape.mono : ∀ a0 a1 a2 a3 a4 k, LeO (spec_l4Shape.f k a0 a1 a2 a3 a4) (spec_l4Shape.f (k + 1) a0 a1 a2 a3 a4) := by
  intro a0 a1 a2 a3 a4 k
  obtain ⟨ih0, ih1, ih2⟩ := spec_l4Shape.mono_l k
  exact ih0 a0 a1 a2 a3 a4
set_option maxHeartbeats 8000000 in
set_option maxRecDepth 100000 in
theorem spec_l4Shape.calls (k : Nat) : ∀ (a0_0 : Int) (a0_1 : ByteArray) (a0_2 : Int) (A0_3 : Option Addr) (c0_3 : Nat) (l0_3 : List Int) (A0_4 : Option Addr) (c0_4 : Nat) (l0_4 : List (S34)) (r : Bool) (w : World) (hr0_3 : Kd.C (Kd.int .i64) w A0_3 l0_3.length l0_3) (hc0_3 : l0_3.length ≤ c0_3) (hr0_4 : Kd.C k34 w A0_4 l0_4.length l0_4) (hc0_4 : l0_4.length ≤ c0_4) (h : spec_l4Shape.f k a0_0 a0_1 a0_2 l0_3 l0_4 = some r),
    Calls Try.prog 100 #[.agg #[.int .i64 a0_0, .string a0_1, .int .i64 a0_2, .slice A0_3 l0_3.length c0_3, .slice A0_4 l0_4.length c0_4]] w fun e w' => e = .returned (.bool r) ∧ Below w.heap.size w w' := by
  induction k using Nat.strongRecOn with
  | _ k ih =>
  intro a0_0 a0_1 a0_2 A0_3 c0_3 l0_3 A0_4 c0_4 l0_4 r w hr0_3 hc0_3 hr0_4 hc0_4 h
  cases k with
  | zero => exact absurd h (by simp [spec_l4Shape.f])
  | succ k =>
  simp only [spec_l4Shape.f] at h
  have hu34 := Try.underlying34
  have HR0_3 := Aside0.mk hr0_3
  have HC0_3 := Aside0.mk hc0_3
  clear hr0_3 hc0_3
  have HR0_4 := Aside0.mk hr0_4
  have HC0_4 := Aside0.mk hc0_4
  clear hr0_4 hc0_4
  have HB := Aside0.mk (Below.refl w.heap.size w)
  have H : ((spec_l4Dots.f a0_0 a0_1 a0_2 l0_3 l0_4).bind fun t401 => (if t401 = true then (some false) else (spec_l4Shape.l0 k 0 0 a0_0 a0_1 a0_2 l0_3 l0_4))) = some r := h
  clear h
  replace H := Option.bind_eq_some_iff.mp H
  obtain ⟨t401, A20, H⟩ := H
  replace H : (if t401 = true then (some false) else (spec_l4Shape.l0 k 0 0 a0_0 a0_1 a0_2 l0_3 l0_4)) = some r := H
  have A2 := Aside0.mk A20
  clear A20
  by_cases c3 : t401 = true
  · subst c3
    have H1 : (some false) = some r := by rw [if_pos rfl] at H; exact H
    clear H
    have H := H1
    clear H1
    obtain rfl := Option.some.inj H
    go_enter Try.func100, Try.ntmps100
    go_wp2_with (first | ((with_reducible refine gate_dst (N := 1) rfl ?_); refine box_event ?hg (N := 1) ?hd (cs := #[.int .i64 a0_0, .string a0_1, .int .i64 a0_2, .slice A0_3 l0_3.length c0_3, .slice A0_4 l0_4.length c0_4]) (t := 34) ?hr ?_; (case hd => rfl); (case hg => rfl); (case hr => first | (go_simp; done) | (go_simp; rfl)); intro gb400 hg w4 hbox hb; have n0_ := Aside0.mk (below_step (by repeat (first | (with_reducible first | exact HB.out | apply below_alloc | apply pw_below_drewN | apply below_drew1) | exact HB.out)) hb); have n1_ := Aside0.mk (hbox); have n2_ := Aside0.mk ((by rw [hg]; exact (below_size (by repeat (first | (with_reducible first | exact HB.out | apply below_alloc | apply pw_below_drewN | apply below_drew1) | exact HB.out))) : w.heap.size ≤ gb400)); have n3_ := Aside0.mk ((by rw [hg]; exact (below_size (by repeat (first | (with_reducible first | exact HB.out | apply below_alloc | apply pw_below_drewN | apply below_drew1) | exact HB.out))) : w.heap.size ≤ gb400)); clear HB; have HB := n0_; have BK400 := n1_; have GW400 := n2_; have GE400 := n3_; clear n0_ n1_ n2_ n3_; clear hb hbox hg; have hcz5_0 : w4.cell? ⟨gb400, 0, none⟩ = some (.int .i64 a0_0) := (blk_cell BK400.out 0).trans rfl; have hcz5_1 : w4.cell? ⟨gb400, 1, none⟩ = some (.string a0_1) := (blk_cell BK400.out 1).trans rfl; have hcz5_2 : w4.cell? ⟨gb400, 2, none⟩ = some (.int .i64 a0_2) := (blk_cell BK400.out 2).trans rfl; have hcz5_3 : w4.cell? ⟨gb400, 3, none⟩ = some (.slice A0_3 l0_3.length c0_3) := (blk_cell BK400.out 3).trans rfl; have hcz5_4 : w4.cell? ⟨gb400, 4, none⟩ = some (.slice A0_4 l0_4.length c0_4) := (blk_cell BK400.out 4).trans rfl; have hfz5_0 := blk_frozen BK400.out 0; have hfz5_1 := blk_frozen BK400.out 1; have hfz5_2 := blk_frozen BK400.out 2; have hfz5_3 := blk_frozen BK400.out 3; have hfz5_4 := blk_frozen BK400.out 4) | ((with_reducible refine gate_callee (f := 109) rfl ?_); refine goesL_ (some 6) rfl rfl Try.func109 (by kernel_rfl) rfl #[.agg #[.int .i64 a0_0, .string a0_1, .int .i64 a0_2, .slice A0_3 l0_3.length c0_3, .slice A0_4 l0_4.length c0_4]] rfl (by (try simp only [List.map_toArray, List.map_cons, List.map_nil]); first | done | rfl | (simp only [List.length_drop, List.length_take]; rfl)) ?_; (with_reducible refine (spec_l4Dots.calls a0_0 a0_1 a0_2 _ _ l0_3 _ _ l0_4 true _ ?side1 ?side2 ?side3 ?side4 A2.out).mono ?_); (case side1 => repeat (first | exact (Kd.C_below HR0_3.out HB.out) | (with_reducible refine Kd.C_alloc ?_ _) | (with_reducible refine Kd.C_drewN ?_ _) | (with_reducible refine Kd.C_drew ?_))); (case side2 => exact HC0_3.out); (case side3 => repeat (first | exact (Kd.C_below HR0_4.out HB.out) | (with_reducible refine Kd.C_alloc ?_ _) | (with_reducible refine Kd.C_drewN ?_ _) | (with_reducible refine Kd.C_drew ?_))); (case side4 => exact HC0_4.out); rintro e w6 ⟨rfl, hb⟩; refine ⟨_, rfl, ?_⟩; have n0_ := Aside0.mk (blk_below (g := gb400) (o := .cells #[.int .i64 a0_0, .string a0_1, .int .i64 a0_2, .slice A0_3 l0_3.length c0_3, .slice A0_4 l0_4.length c0_4] 34 (0, 0)) (by (with_reducible repeat (first | refine blk_drewN ?_ _ | refine blk_drew ?_ | refine blk_alloc ?_ _)); exact BK400.out) hb); have n1_ := Aside0.mk (below_step (by repeat (first | (with_reducible first | exact HB.out | apply below_alloc | apply pw_below_drewN | apply below_drew1 | refine below_set ?_ GE400.out) | exact HB.out)) hb); clear BK400; clear HB; have BK400 := n0_; have HB := n1_; clear n0_ n1_; (try clear hb); (try clear hb2); (try clear hk); (try clear hi)))
    go_ret
    exact ⟨by first | rfl | (simp [errW_none, errW_some] <;> rfl) | (simp [*, errW_none, errW_some] <;> rfl), by repeat (first | (with_reducible first | exact HB.out | apply below_alloc | apply pw_below_drewN | apply below_drew1 | refine below_set ?_ GE400.out) | exact HB.out)⟩
  · replace c3 := Bool.eq_false_iff.mpr c3
    subst c3
    have H1 : (spec_l4Shape.l0 k 0 0 a0_0 a0_1 a0_2 l0_3 l0_4) = some r := by rw [if_neg (show ¬ (false = true) by decide)] at H; exact H
    clear H
    have H := H1
    clear H1
    have H' := Aside0.mk H
    clear H
    go_enter Try.func100, Try.ntmps100
    go_wp2_with (first | ((with_reducible refine gate_dst (N := 1) rfl ?_); refine box_event ?hg (N := 1) ?hd (cs := #[.int .i64 a0_0, .string a0_1, .int .i64 a0_2, .slice A0_3 l0_3.length c0_3, .slice A0_4 l0_4.length c0_4]) (t := 34) ?hr ?_; (case hd => rfl); (case hg => rfl); (case hr => first | (go_simp; done) | (go_simp; rfl)); intro gb400 hg w7 hbox hb; have n0_ := Aside0.mk (below_step (by repeat (first | (with_reducible first | exact HB.out | apply below_alloc | apply pw_below_drewN | apply below_drew1) | exact HB.out)) hb); have n1_ := Aside0.mk (hbox); have n2_ := Aside0.mk ((by rw [hg]; exact (below_size (by repeat (first | (with_reducible first | exact HB.out | apply below_alloc | apply pw_below_drewN | apply below_drew1) | exact HB.out))) : w.heap.size ≤ gb400)); have n3_ := Aside0.mk ((by rw [hg]; exact (below_size (by repeat (first | (with_reducible first | exact HB.out | apply below_alloc | apply pw_below_drewN | apply below_drew1) | exact HB.out))) : w.heap.size ≤ gb400)); clear HB; have HB := n0_; have BK400 := n1_; have GW400 := n2_; have GE400 := n3_; clear n0_ n1_ n2_ n3_; clear hb hbox hg; have hcz8_0 : w7.cell? ⟨gb400, 0, none⟩ = some (.int .i64 a0_0) := (blk_cell BK400.out 0).trans rfl; have hcz8_1 : w7.cell? ⟨gb400, 1, none⟩ = some (.string a0_1) := (blk_cell BK400.out 1).trans rfl; have hcz8_2 : w7.cell? ⟨gb400, 2, none⟩ = some (.int .i64 a0_2) := (blk_cell BK400.out 2).trans rfl; have hcz8_3 : w7.cell? ⟨gb400, 3, none⟩ = some (.slice A0_3 l0_3.length c0_3) := (blk_cell BK400.out 3).trans rfl; have hcz8_4 : w7.cell? ⟨gb400, 4, none⟩ = some (.slice A0_4 l0_4.length c0_4) := (blk_cell BK400.out 4).trans rfl; have hfz8_0 := blk_frozen BK400.out 0; have hfz8_1 := blk_frozen BK400.out 1; have hfz8_2 := blk_frozen BK400.out 2; have hfz8_3 := blk_frozen BK400.out 3; have hfz8_4 := blk_frozen BK400.out 4) | ((with_reducible refine gate_callee (f := 109) rfl ?_); refine goesL_ (some 6) rfl rfl Try.func109 (by kernel_rfl) rfl #[.agg #[.int .i64 a0_0, .string a0_1, .int .i64 a0_2, .slice A0_3 l0_3.length c0_3, .slice A0_4 l0_4.length c0_4]] rfl (by (try simp only [List.map_toArray, List.map_cons, List.map_nil]); first | done | rfl | (simp only [List.length_drop, List.length_take]; rfl)) ?_; (with_reducible refine (spec_l4Dots.calls a0_0 a0_1 a0_2 _ _ l0_3 _ _ l0_4 false _ ?side1 ?side2 ?side3 ?side4 A2.out).mono ?_); (case side1 => repeat (first | exact (Kd.C_below HR0_3.out HB.out) | (with_reducible refine Kd.C_alloc ?_ _) | (with_reducible refine Kd.C_drewN ?_ _) | (with_reducible refine Kd.C_drew ?_))); (case side2 => exact HC0_3.out); (case side3 => repeat (first | exact (Kd.C_below HR0_4.out HB.out) | (with_reducible refine Kd.C_alloc ?_ _) | (with_reducible refine Kd.C_drewN ?_ _) | (with_reducible refine Kd.C_drew ?_))); (case side4 => exact HC0_4.out); rintro e w9 ⟨rfl, hb⟩; refine ⟨_, rfl, ?_⟩; have n0_ := Aside0.mk (blk_below (g := gb400) (o := .cells #[.int .i64 a0_0, .string a0_1, .int .i64 a0_2, .slice A0_3 l0_3.length c0_3, .slice A0_4 l0_4.length c0_4] 34 (0, 0)) (by (with_reducible repeat (first | refine blk_drewN ?_ _ | refine blk_drew ?_ | refine blk_alloc ?_ _)); exact BK400.out) hb); have n1_ := Aside0.mk (below_step (by repeat (first | (with_reducible first | exact HB.out | apply below_alloc | apply pw_below_drewN | apply below_drew1 | refine below_set ?_ GE400.out) | exact HB.out)) hb); clear BK400; clear HB; have BK400 := n0_; have HB := n1_; clear n0_ n1_; (try clear hb); (try clear hb2); (try clear hk); (try clear hi)))
    go_loopg [3, 4] k (fun kq v3 v4 w' => ∃ (x3_1 : Int) (x4_1 : Int), v3 = .int .i64 x3_1 ∧ v4 = .int .i64 x4_1 ∧ Aside0 (spec_l4Shape.l0 kq x3_1 x4_1 a0_0 a0_1 a0_2 l0_3 l0_4 = some r) ∧ Aside0 (kq ≤ k) ∧ Aside0 (w'.heap[gb400]? = some (.cells #[.int .i64 a0_0, .string a0_1, .int .i64 a0_2, (.slice A0_3 l0_3.length c0_3), (.slice A0_4 l0_4.length c0_4)] 34 (0, 0))) ∧ Aside0 (Below w.heap.size w w'))
    case atStart => exact ⟨(0), (0), (by first | rfl | (simp; done) | (simp [*]; done)), (by first | rfl | (simp; done) | (simp [*]; done)), H', ⟨Nat.le_refl _⟩, ⟨by (with_reducible repeat (first | refine blk_drewN ?_ _ | refine blk_drew ?_ | refine blk_alloc ?_ _)); exact BK400.out⟩, ⟨by repeat (first | (with_reducible first | exact HB.out | apply below_alloc | apply pw_below_drewN | apply below_drew1 | refine below_set ?_ GE400.out) | exact HB.out)⟩⟩
    case round =>
      clear H'
      try clear c1
      try clear p2
      try clear c3
      try clear hcz5_0
      try clear hcz5_1
      try clear hcz5_2
      try clear hcz5_3
      try clear hcz5_4
      try clear hcz8_0
      try clear hcz8_1
      try clear hcz8_2
      try clear hcz8_3
      try clear hcz8_4
      try clear hfz5_0
      try clear hfz5_1
      try clear hfz5_2
      try clear hfz5_3
      try clear hfz5_4
      try clear hfz8_0
      try clear hfz8_1
      try clear hfz8_2
      try clear hfz8_3
      try clear hfz8_4
      obtain ⟨x3_1, x4_1, rfl, rfl, HA, HK1, BK400, HB⟩ := hrel
      cases gk with
      | zero => exact absurd HA.out (by simp [spec_l4Shape.l0])
      | succ k1 =>
        have H := HA.out
        clear HA
        simp only [spec_l4Shape.l0] at H
        by_cases c10 : x4_1 < (l0_4.length : Int)
        · rw [if_pos c10] at H
          have c10b0 : decide (x4_1 < (l0_4.length : Int)) = true := decide_eq_true c10
          clear c10
          by_cases c11 : 0 ≤ x4_1
          · rw [if_pos c11] at H
            have c11b0 : decide (0 ≤ x4_1) = true := decide_eq_true c11
            clear c11
            replace H := Option.bind_eq_some_iff.mp H
            obtain ⟨t403, A120, H⟩ := H
            replace H : (if t403 = true then (if x4_1 = 0 then (spec_l4Shape.j1 k1 (wrap64 (x3_1 + 1)) x4_1 true a0_0 a0_1 a0_2 l0_3 l0_4) else (if 0 ≤ (wrap64 (x4_1 - 1)) then (if (wrap64 (x4_1 - 1)) < (l0_4.length : Int) then ((spec_l4Dots.f ((rd_T34 l0_4 (wrap64 (x4_1 - 1))).f0) ((rd_T34 l0_4 (wrap64 (x4_1 - 1))).f1) ((rd_T34 l0_4 (wrap64 (x4_1 - 1))).f2) ((rd_T34 l0_4 (wrap64 (x4_1 - 1))).f3) ((rd_T34 l0_4 (wrap64 (x4_1 - 1))).f4)).bind fun t405 => (spec_l4Shape.j1 k1 (wrap64 (x3_1 + 1)) x4_1 t405 a0_0 a0_1 a0_2 l0_3 l0_4)) else (none)) else (none))) else ((spec_l4Shape.f k1 ((rd_T34 l0_4 x4_1).f0) ((rd_T34 l0_4 x4_1).f1) ((rd_T34 l0_4 x4_1).f2) ((rd_T34 l0_4 x4_1).f3) ((rd_T34 l0_4 x4_1).f4)).bind fun t407 => (if t407 = true then (spec_l4Shape.l0 k1 x3_1 (wrap64 (x4_1 + 1)) a0_0 a0_1 a0_2 l0_3 l0_4) else (some false)))) = some r := H
            have A12 := Aside0.mk A120
            clear A120
            by_cases c13 : t403 = true
            · subst c13
              have H1 : (if x4_1 = 0 then (spec_l4Shape.j1 k1 (wrap64 (x3_1 + 1)) x4_1 true a0_0 a0_1 a0_2 l0_3 l0_4) else (if 0 ≤ (wrap64 (x4_1 - 1)) then (if (wrap64 (x4_1 - 1)) < (l0_4.length : Int) then ((spec_l4Dots.f ((rd_T34 l0_4 (wrap64 (x4_1 - 1))).f0) ((rd_T34 l0_4 (wrap64 (x4_1 - 1))).f1) ((rd_T34 l0_4 (wrap64 (x4_1 - 1))).f2) ((rd_T34 l0_4 (wrap64 (x4_1 - 1))).f3) ((rd_T34 l0_4 (wrap64 (x4_1 - 1))).f4)).bind fun t405 => (spec_l4Shape.j1 k1 (wrap64 (x3_1 + 1)) x4_1 t405 a0_0 a0_1 a0_2 l0_3 l0_4)) else (none)) else (none))) = some r := by rw [if_pos rfl] at H; exact H
              clear H
              have H := H1
              clear H1
              have HC14 := Aside0.mk H
              clear H
              have hcz15_0 : wr.cell? ⟨gb400, 0, none⟩ = some (.int .i64 a0_0) := (blk_cell BK400.out 0).trans rfl
              have hcz15_1 : wr.cell? ⟨gb400, 1, none⟩ = some (.string a0_1) := (blk_cell BK400.out 1).trans rfl
              have hcz15_2 : wr.cell? ⟨gb400, 2, none⟩ = some (.int .i64 a0_2) := (blk_cell BK400.out 2).trans rfl
              have hcz15_3 : wr.cell? ⟨gb400, 3, none⟩ = some (.slice A0_3 l0_3.length c0_3) := (blk_cell BK400.out 3).trans rfl
              have hcz15_4 : wr.cell? ⟨gb400, 4, none⟩ = some (.slice A0_4 l0_4.length c0_4) := (blk_cell BK400.out 4).trans rfl
              have hfz15_0 := blk_frozen BK400.out 0
              have hfz15_1 := blk_frozen BK400.out 1
              have hfz15_2 := blk_frozen BK400.out 2
              have hfz15_3 := blk_frozen BK400.out 3
              have hfz15_4 := blk_frozen BK400.out 4
              have p402 : 0 ≤ (x4_1 : Int) := of_decide_eq_true (by first | (with_reducible assumption) | assumption)
              have q402 : x4_1 < (l0_4.length : Int) := of_decide_eq_true (by first | (with_reducible assumption) | assumption)
              obtain ⟨ad402, A402_3, c402_3, A402_4, c402_4, e402, hx402_0, hx402_1, hx402_2, hx402_3, hx402_4, hl402_3, hi402_3, hl402_4, hi402_4⟩ := at_T34 HR0_4.out x4_1 p402 q402
              cases e402
              replace hx402_0 := (HB.out.cell (World.block_lt_of_cell? w _ hx402_0)).trans hx402_0
              replace hx402_1 := (HB.out.cell (World.block_lt_of_cell? w _ hx402_1)).trans hx402_1
              replace hx402_2 := (HB.out.cell (World.block_lt_of_cell? w _ hx402_2)).trans hx402_2
              replace hx402_3 := (HB.out.cell (World.block_lt_of_cell? w _ hx402_3)).trans hx402_3
              replace hx402_4 := (HB.out.cell (World.block_lt_of_cell? w _ hx402_4)).trans hx402_4
              have HR402_3 := Aside0.mk hi402_3
              have HC402_3 := Aside0.mk hl402_3
              clear hi402_3 hl402_3
              have HR402_4 := Aside0.mk hi402_4
              have HC402_4 := Aside0.mk hl402_4
              clear hi402_4 hl402_4
              replace p402 := eq_true p402
              replace q402 := eq_true q402
              go_upto_region 9 with (first | ((with_reducible refine gate_callee (f := 109) rfl ?_); refine goesL_ (some 19) rfl rfl Try.func109 (by kernel_rfl) rfl #[.agg #[.int .i64 ((rd_T34 l0_4 x4_1).f0), .string ((rd_T34 l0_4 x4_1).f1), .int .i64 ((rd_T34 l0_4 x4_1).f2), .slice A402_3 ((rd_T34 l0_4 x4_1).f3).length c402_3, .slice A402_4 ((rd_T34 l0_4 x4_1).f4).length c402_4]] rfl (by (try simp only [List.map_toArray, List.map_cons, List.map_nil]); first | done | rfl | (simp only [List.length_drop, List.length_take]; rfl)) ?_; (with_reducible refine (spec_l4Dots.calls ((rd_T34 l0_4 x4_1).f0) ((rd_T34 l0_4 x4_1).f1) ((rd_T34 l0_4 x4_1).f2) _ _ ((rd_T34 l0_4 x4_1).f3) _ _ ((rd_T34 l0_4 x4_1).f4) true _ ?side1 ?side2 ?side3 ?side4 A12.out).mono ?_); (case side1 => repeat (first | exact (Kd.C_below HR402_3.out HB.out) | (with_reducible refine Kd.C_alloc ?_ _) | (with_reducible refine Kd.C_drewN ?_ _) | (with_reducible refine Kd.C_drew ?_))); (case side2 => exact HC402_3.out); (case side3 => repeat (first | exact (Kd.C_below HR402_4.out HB.out) | (with_reducible refine Kd.C_alloc ?_ _) | (with_reducible refine Kd.C_drewN ?_ _) | (with_reducible refine Kd.C_drew ?_))); (case side4 => exact HC402_4.out); rintro e w16 ⟨rfl, hb⟩; refine ⟨_, rfl, ?_⟩; have n0_ := Aside0.mk (blk_below (g := gb400) (o := .cells #[.int .i64 a0_0, .string a0_1, .int .i64 a0_2, .slice A0_3 l0_3.length c0_3, .slice (some ad402) l0_4.length c0_4] 34 (0, 0)) (by (with_reducible repeat (first | refine blk_drewN ?_ _ | refine blk_drew ?_ | refine blk_alloc ?_ _)); exact BK400.out) hb); have n1_ := Aside0.mk (below_step (by repeat (first | (with_reducible first | exact HB.out | apply below_alloc | apply pw_below_drewN | apply below_drew1 | refine below_set ?_ GE400.out) | exact HB.out)) hb); clear BK400; clear HB; have BK400 := n0_; have HB := n1_; clear n0_ n1_; (try clear hb); (try clear hb2); (try clear hk); (try clear hi)))
              (try simp only [Act.put, List.setIfInBounds_toArray, List.set_cons_zero, List.set_cons_succ])
              go_cut [32] (fun v32 wc => ∃ (kq : Nat) (x32_13 : Bool), v32 = .bool x32_13 ∧ Aside0 (spec_l4Shape.j1 kq (wrap64 (x3_1 + 1)) x4_1 x32_13 a0_0 a0_1 a0_2 l0_3 l0_4 = some r) ∧ Aside0 (kq ≤ k1) ∧ Aside0 (wc.heap[gb400]? = some (.cells #[.int .i64 a0_0, .string a0_1, .int .i64 a0_2, (.slice A0_3 l0_3.length c0_3), (.slice (some ad402) l0_4.length c0_4)] 34 (0, 0))) ∧ Aside0 (Below w.heap.size w wc))
              case first =>
                have H := HC14.out
                clear HC14
                by_cases c17 : x4_1 = 0
                · rw [if_pos c17] at H
                  have c17b0 : (x4_1 == 0) = true := beq_iff_eq.mpr c17
                  have c17b1 : (x4_1 != 0) = false := bne_eq_false_iff_eq.mpr c17
                  clear c17
                  (first | rw [c17b0] | (simp only [i64_w, i32_w]; rw [c17b0]) | skip)
                  have H' := Aside0.mk H
                  clear H
                  go_wp2
                  go_meet
                  case rel => exact ⟨_, (true), (by first | rfl | (simp; done) | (simp [*]; done)), H', ⟨by have := HK1.out; first | omega | exact Nat.le_refl _⟩, ⟨by (with_reducible repeat (first | refine blk_drewN ?_ _ | refine blk_drew ?_ | refine blk_alloc ?_ _)); exact BK400.out⟩, ⟨by repeat (first | (with_reducible first | exact HB.out | apply below_alloc | apply pw_below_drewN | apply below_drew1 | refine below_set ?_ GE400.out) | exact HB.out)⟩⟩
                · rw [if_neg c17] at H
                  have c17b0 : (x4_1 == 0) = false := beq_eq_false_iff_ne.mpr c17
                  have c17b1 : (x4_1 != 0) = true := bne_iff_ne.mpr c17
                  (first | rw [c17b0] | (simp only [i64_w, i32_w]; rw [c17b0]) | skip)
                  obtain ⟨ji18, hji18⟩ : ∃ j_ : Int, (wrap64 (x4_1 - 1)) = j_ := ⟨_, rfl⟩
                  replace H : (if 0 ≤ (ji18) then (if (ji18) < (l0_4.length : Int) then ((spec_l4Dots.f ((rd_T34 l0_4 (ji18)).f0) ((rd_T34 l0_4 (ji18)).f1) ((rd_T34 l0_4 (ji18)).f2) ((rd_T34 l0_4 (ji18)).f3) ((rd_T34 l0_4 (ji18)).f4)).bind fun t405 => (spec_l4Shape.j1 k1 (wrap64 (x3_1 + 1)) x4_1 t405 a0_0 a0_1 a0_2 l0_3 l0_4)) else (none)) else (none)) = some r := by first | (rw [hji18] at H; exact H) | (simp only [hji18] at H ⊢; exact H)
                  have hji18w : (IntKind.i64.wrap (x4_1 - 1)) = ji18 := (i64_w _).trans hji18
                  by_cases c19 : 0 ≤ (ji18)
                  · rw [if_pos c19] at H
                    have c19b0 : decide (0 ≤ (ji18)) = true := decide_eq_true c19
                    clear c19
                    by_cases c20 : (ji18) < (l0_4.length : Int)
                    · rw [if_pos c20] at H
                      have c20b0 : decide ((ji18) < (l0_4.length : Int)) = true := decide_eq_true c20
                      clear c20
                      replace H := Option.bind_eq_some_iff.mp H
                      obtain ⟨t405, A210, H⟩ := H
                      replace H : (spec_l4Shape.j1 k1 (wrap64 (x3_1 + 1)) x4_1 t405 a0_0 a0_1 a0_2 l0_3 l0_4) = some r := H
                      have A21 := Aside0.mk A210
                      clear A210
                      have H' := Aside0.mk H
                      clear H
                      have hcz22_0 : w16.cell? ⟨gb400, 0, none⟩ = some (.int .i64 a0_0) := (blk_cell BK400.out 0).trans rfl
                      have hcz22_1 : w16.cell? ⟨gb400, 1, none⟩ = some (.string a0_1) := (blk_cell BK400.out 1).trans rfl
                      have hcz22_2 : w16.cell? ⟨gb400, 2, none⟩ = some (.int .i64 a0_2) := (blk_cell BK400.out 2).trans rfl
                      have hcz22_3 : w16.cell? ⟨gb400, 3, none⟩ = some (.slice A0_3 l0_3.length c0_3) := (blk_cell BK400.out 3).trans rfl
                      have hcz22_4 : w16.cell? ⟨gb400, 4, none⟩ = some (.slice (some ad402) l0_4.length c0_4) := (blk_cell BK400.out 4).trans rfl
                      have hfz22_0 := blk_frozen BK400.out 0
                      have hfz22_1 := blk_frozen BK400.out 1
                      have hfz22_2 := blk_frozen BK400.out 2
                      have hfz22_3 := blk_frozen BK400.out 3
                      have hfz22_4 := blk_frozen BK400.out 4
                      have p404 : 0 ≤ ((ji18) : Int) := of_decide_eq_true (by first | (with_reducible assumption) | assumption)
                      have q404 : (ji18) < (l0_4.length : Int) := of_decide_eq_true (by first | (with_reducible assumption) | assumption)
                      obtain ⟨ad404, A404_3, c404_3, A404_4, c404_4, e404, hx404_0, hx404_1, hx404_2, hx404_3, hx404_4, hl404_3, hi404_3, hl404_4, hi404_4⟩ := at_T34 HR0_4.out (ji18) p404 q404
                      obtain rfl : ad402 = ad404 := (by injection e404)
                      replace hx404_0 := (HB.out.cell (World.block_lt_of_cell? w _ hx404_0)).trans hx404_0
                      replace hx404_1 := (HB.out.cell (World.block_lt_of_cell? w _ hx404_1)).trans hx404_1
                      replace hx404_2 := (HB.out.cell (World.block_lt_of_cell? w _ hx404_2)).trans hx404_2
                      replace hx404_3 := (HB.out.cell (World.block_lt_of_cell? w _ hx404_3)).trans hx404_3
                      replace hx404_4 := (HB.out.cell (World.block_lt_of_cell? w _ hx404_4)).trans hx404_4
                      have HR404_3 := Aside0.mk hi404_3
                      have HC404_3 := Aside0.mk hl404_3
                      clear hi404_3 hl404_3
                      have HR404_4 := Aside0.mk hi404_4
                      have HC404_4 := Aside0.mk hl404_4
                      clear hi404_4 hl404_4
                      replace p404 := eq_true p404
                      replace q404 := eq_true q404
                      go_wp2_with (first | (go_at_call 109; (with_reducible refine (spec_l4Dots.calls ((rd_T34 l0_4 (ji18)).f0) ((rd_T34 l0_4 (ji18)).f1) ((rd_T34 l0_4 (ji18)).f2) _ _ ((rd_T34 l0_4 (ji18)).f3) _ _ ((rd_T34 l0_4 (ji18)).f4) t405 _ ?side1 ?side2 ?side3 ?side4 A21.out).mono ?_); (case side1 => repeat (first | exact (Kd.C_below HR404_3.out HB.out) | (with_reducible refine Kd.C_alloc ?_ _) | (with_reducible refine Kd.C_drewN ?_ _) | (with_reducible refine Kd.C_drew ?_))); (case side2 => exact HC404_3.out); (case side3 => repeat (first | exact (Kd.C_below HR404_4.out HB.out) | (with_reducible refine Kd.C_alloc ?_ _) | (with_reducible refine Kd.C_drewN ?_ _) | (with_reducible refine Kd.C_drew ?_))); (case side4 => exact HC404_4.out); rintro e w23 ⟨rfl, hb⟩; have n0_ := Aside0.mk (blk_below (g := gb400) (o := .cells #[.int .i64 a0_0, .string a0_1, .int .i64 a0_2, .slice A0_3 l0_3.length c0_3, .slice (some ad402) l0_4.length c0_4] 34 (0, 0)) (by (with_reducible repeat (first | refine blk_drewN ?_ _ | refine blk_drew ?_ | refine blk_alloc ?_ _)); exact BK400.out) hb); have n1_ := Aside0.mk (below_step (by repeat (first | (with_reducible first | exact HB.out | apply below_alloc | apply pw_below_drewN | apply below_drew1 | refine below_set ?_ GE400.out) | exact HB.out)) hb); clear BK400; clear HB; have BK400 := n0_; have HB := n1_; clear n0_ n1_; (try clear hb); (try clear hb2); (try clear hk); (try clear hi)))
                      go_meet
                      case rel => exact ⟨_, (t405), (by first | rfl | (simp; done) | (simp [*]; done)), H', ⟨by have := HK1.out; first | omega | exact Nat.le_refl _⟩, ⟨by (with_reducible repeat (first | refine blk_drewN ?_ _ | refine blk_drew ?_ | refine blk_alloc ?_ _)); exact BK400.out⟩, ⟨by repeat (first | (with_reducible first | exact HB.out | apply below_alloc | apply pw_below_drewN | apply below_drew1 | refine below_set ?_ GE400.out) | exact HB.out)⟩⟩
                    · rw [if_neg c20] at H
                      exact absurd H (by simp)
                  · rw [if_neg c19] at H
                    exact absurd H (by simp)
              case rest =>
                clear HC14
                try clear c1
                try clear c2
                try clear p2
                try clear c3
                try clear c4
                try clear p4
                try clear q4
                try clear hx4
                try clear p6
                try clear c10
                try clear c10b0
                try clear c11
                try clear c11b0
                try clear c13
                try clear c17
                try clear c17b0
                try clear c17b1
                try clear c19
                try clear c19b0
                try clear c20
                try clear c20b0
                try clear hcz15_0
                try clear hcz15_1
                try clear hcz15_2
                try clear hcz15_3
                try clear hcz15_4
                try clear hcz22_0
                try clear hcz22_1
                try clear hcz22_2
                try clear hcz22_3
                try clear hcz22_4
                try clear hcz5_0
                try clear hcz5_1
                try clear hcz5_2
                try clear hcz5_3
                try clear hcz5_4
                try clear hcz8_0
                try clear hcz8_1
                try clear hcz8_2
                try clear hcz8_3
                try clear hcz8_4
                try clear hfz15_0
                try clear hfz15_1
                try clear hfz15_2
                try clear hfz15_3
                try clear hfz15_4
                try clear hfz22_0
                try clear hfz22_1
                try clear hfz22_2
                try clear hfz22_3
                try clear hfz22_4
                try clear hfz5_0
                try clear hfz5_1
                try clear hfz5_2
                try clear hfz5_3
                try clear hfz5_4
                try clear hfz8_0
                try clear hfz8_1
                try clear hfz8_2
                try clear hfz8_3
                try clear hfz8_4
                try clear hx402_0
                try clear hx402_1
                try clear hx402_2
                try clear hx402_3
                try clear hx402_4
                try clear hx404_0
                try clear hx404_1
                try clear hx404_2
                try clear hx404_3
                try clear hx404_4
                try clear p2
                try clear p402
                try clear p404
                try clear q402
                try clear q404
                obtain ⟨kq, x32_13, rfl, HA, HJ13, BK400, HB⟩ := hcut
                cases kq with
                | zero => exact absurd HA.out (by simp [spec_l4Shape.j1])
                | succ kj13 =>
                  have H := HA.out
                  clear HA
                  simp only [spec_l4Shape.j1] at H
                  by_cases c24 : x32_13 = true
                  · subst c24
                    have H1 : (some false) = some r := by rw [if_pos rfl] at H; exact H
                    clear H
                    have H := H1
                    clear H1
                    obtain rfl := Option.some.inj H
                    go_wp2
                    go_ret
                    exact ⟨by first | rfl | (simp [errW_none, errW_some] <;> rfl) | (simp [*, errW_none, errW_some] <;> rfl), by repeat (first | (with_reducible first | exact HB.out | apply below_alloc | apply pw_below_drewN | apply below_drew1 | refine below_set ?_ GE400.out) | exact HB.out)⟩
                  · replace c24 := Bool.eq_false_iff.mpr c24
                    subst c24
                    have H1 : (spec_l4Shape.l0 kj13 (wrap64 (x3_1 + 1)) (wrap64 (x4_1 + 1)) a0_0 a0_1 a0_2 l0_3 l0_4) = some r := by rw [if_neg (show ¬ (false = true) by decide)] at H; exact H
                    clear H
                    have H := H1
                    clear H1
                    have H' := Aside0.mk H
                    clear H
                    go_wp2
                    go_roundg kj13
                    case measure => have := HK1.out; have := HJ13.out; omega
                    case rel => exact ⟨((wrap64 (x3_1 + 1))), (wrap64 (x4_1 + 1)), (by first | rfl | (simp; done) | (simp [*]; done)), (by first | rfl | (simp; done) | (simp [*]; done)), H', ⟨by have := HK1.out; have := HJ13.out; omega⟩, ⟨by (with_reducible repeat (first | refine blk_drewN ?_ _ | refine blk_drew ?_ | refine blk_alloc ?_ _)); exact BK400.out⟩, ⟨by repeat (first | (with_reducible first | exact HB.out | apply below_alloc | apply pw_below_drewN | apply below_drew1 | refine below_set ?_ GE400.out) | exact HB.out)⟩⟩
            · replace c13 := Bool.eq_false_iff.mpr c13
              subst c13
              have H1 : ((spec_l4Shape.f k1 ((rd_T34 l0_4 x4_1).f0) ((rd_T34 l0_4 x4_1).f1) ((rd_T34 l0_4 x4_1).f2) ((rd_T34 l0_4 x4_1).f3) ((rd_T34 l0_4 x4_1).f4)).bind fun t407 => (if t407 = true then (spec_l4Shape.l0 k1 x3_1 (wrap64 (x4_1 + 1)) a0_0 a0_1 a0_2 l0_3 l0_4) else (some false))) = some r := by rw [if_neg (show ¬ (false = true) by decide)] at H; exact H
              clear H
              have H := H1
              clear H1
              replace H := Option.bind_eq_some_iff.mp H
              obtain ⟨t407, A250, H⟩ := H
              replace H : (if t407 = true then (spec_l4Shape.l0 k1 x3_1 (wrap64 (x4_1 + 1)) a0_0 a0_1 a0_2 l0_3 l0_4) else (some false)) = some r := H
              have A25 := Aside0.mk A250
              clear A250
              by_cases c26 : t407 = true
              · subst c26
                have H1 : (spec_l4Shape.l0 k1 x3_1 (wrap64 (x4_1 + 1)) a0_0 a0_1 a0_2 l0_3 l0_4) = some r := by rw [if_pos rfl] at H; exact H
                clear H
                have H := H1
                clear H1
                have H' := Aside0.mk H
                clear H
                have hcz27_0 : wr.cell? ⟨gb400, 0, none⟩ = some (.int .i64 a0_0) := (blk_cell BK400.out 0).trans rfl
                have hcz27_1 : wr.cell? ⟨gb400, 1, none⟩ = some (.string a0_1) := (blk_cell BK400.out 1).trans rfl
                have hcz27_2 : wr.cell? ⟨gb400, 2, none⟩ = some (.int .i64 a0_2) := (blk_cell BK400.out 2).trans rfl
                have hcz27_3 : wr.cell? ⟨gb400, 3, none⟩ = some (.slice A0_3 l0_3.length c0_3) := (blk_cell BK400.out 3).trans rfl
                have hcz27_4 : wr.cell? ⟨gb400, 4, none⟩ = some (.slice A0_4 l0_4.length c0_4) := (blk_cell BK400.out 4).trans rfl
                have hfz27_0 := blk_frozen BK400.out 0
                have hfz27_1 := blk_frozen BK400.out 1
                have hfz27_2 := blk_frozen BK400.out 2
                have hfz27_3 := blk_frozen BK400.out 3
                have hfz27_4 := blk_frozen BK400.out 4
                have p402 : 0 ≤ (x4_1 : Int) := of_decide_eq_true (by first | (with_reducible assumption) | assumption)
                have q402 : x4_1 < (l0_4.length : Int) := of_decide_eq_true (by first | (with_reducible assumption) | assumption)
                obtain ⟨ad402, A402_3, c402_3, A402_4, c402_4, e402, hx402_0, hx402_1, hx402_2, hx402_3, hx402_4, hl402_3, hi402_3, hl402_4, hi402_4⟩ := at_T34 HR0_4.out x4_1 p402 q402
                cases e402
                replace hx402_0 := (HB.out.cell (World.block_lt_of_cell? w _ hx402_0)).trans hx402_0
                replace hx402_1 := (HB.out.cell (World.block_lt_of_cell? w _ hx402_1)).trans hx402_1
                replace hx402_2 := (HB.out.cell (World.block_lt_of_cell? w _ hx402_2)).trans hx402_2
                replace hx402_3 := (HB.out.cell (World.block_lt_of_cell? w _ hx402_3)).trans hx402_3
                replace hx402_4 := (HB.out.cell (World.block_lt_of_cell? w _ hx402_4)).trans hx402_4
                have HR402_3 := Aside0.mk hi402_3
                have HC402_3 := Aside0.mk hl402_3
                clear hi402_3 hl402_3
                have HR402_4 := Aside0.mk hi402_4
                have HC402_4 := Aside0.mk hl402_4
                clear hi402_4 hl402_4
                replace p402 := eq_true p402
                replace q402 := eq_true q402
                go_wp2_with (first | ((with_reducible refine gate_callee (f := 109) rfl ?_); refine goesL_ (some 19) rfl rfl Try.func109 (by kernel_rfl) rfl #[.agg #[.int .i64 ((rd_T34 l0_4 x4_1).f0), .string ((rd_T34 l0_4 x4_1).f1), .int .i64 ((rd_T34 l0_4 x4_1).f2), .slice A402_3 ((rd_T34 l0_4 x4_1).f3).length c402_3, .slice A402_4 ((rd_T34 l0_4 x4_1).f4).length c402_4]] rfl (by (try simp only [List.map_toArray, List.map_cons, List.map_nil]); first | done | rfl | (simp only [List.length_drop, List.length_take]; rfl)) ?_; (with_reducible refine (spec_l4Dots.calls ((rd_T34 l0_4 x4_1).f0) ((rd_T34 l0_4 x4_1).f1) ((rd_T34 l0_4 x4_1).f2) _ _ ((rd_T34 l0_4 x4_1).f3) _ _ ((rd_T34 l0_4 x4_1).f4) false _ ?side1 ?side2 ?side3 ?side4 A12.out).mono ?_); (case side1 => repeat (first | exact (Kd.C_below HR402_3.out HB.out) | (with_reducible refine Kd.C_alloc ?_ _) | (with_reducible refine Kd.C_drewN ?_ _) | (with_reducible refine Kd.C_drew ?_))); (case side2 => exact HC402_3.out); (case side3 => repeat (first | exact (Kd.C_below HR402_4.out HB.out) | (with_reducible refine Kd.C_alloc ?_ _) | (with_reducible refine Kd.C_drewN ?_ _) | (with_reducible refine Kd.C_drew ?_))); (case side4 => exact HC402_4.out); rintro e w28 ⟨rfl, hb⟩; refine ⟨_, rfl, ?_⟩; have n0_ := Aside0.mk (blk_below (g := gb400) (o := .cells #[.int .i64 a0_0, .string a0_1, .int .i64 a0_2, .slice A0_3 l0_3.length c0_3, .slice (some ad402) l0_4.length c0_4] 34 (0, 0)) (by (with_reducible repeat (first | refine blk_drewN ?_ _ | refine blk_drew ?_ | refine blk_alloc ?_ _)); exact BK400.out) hb); have n1_ := Aside0.mk (below_step (by repeat (first | (with_reducible first | exact HB.out | apply below_alloc | apply pw_below_drewN | apply below_drew1 | refine below_set ?_ GE400.out) | exact HB.out)) hb); clear BK400; clear HB; have BK400 := n0_; have HB := n1_; clear n0_ n1_; (try clear hb); (try clear hb2); (try clear hk); (try clear hi); have hcz29_0 : w28.cell? ⟨gb400, 0, none⟩ = some (.int .i64 a0_0) := (blk_cell BK400.out 0).trans rfl; have hcz29_1 : w28.cell? ⟨gb400, 1, none⟩ = some (.string a0_1) := (blk_cell BK400.out 1).trans rfl; have hcz29_2 : w28.cell? ⟨gb400, 2, none⟩ = some (.int .i64 a0_2) := (blk_cell BK400.out 2).trans rfl; have hcz29_3 : w28.cell? ⟨gb400, 3, none⟩ = some (.slice A0_3 l0_3.length c0_3) := (blk_cell BK400.out 3).trans rfl; have hcz29_4 : w28.cell? ⟨gb400, 4, none⟩ = some (.slice (some ad402) l0_4.length c0_4) := (blk_cell BK400.out 4).trans rfl; have hfz29_0 := blk_frozen BK400.out 0; have hfz29_1 := blk_frozen BK400.out 1; have hfz29_2 := blk_frozen BK400.out 2; have hfz29_3 := blk_frozen BK400.out 3; have hfz29_4 := blk_frozen BK400.out 4; have p406 : 0 ≤ (x4_1 : Int) := of_decide_eq_true (by first | (with_reducible assumption) | assumption); have q406 : x4_1 < (l0_4.length : Int) := of_decide_eq_true (by first | (with_reducible assumption) | assumption); obtain ⟨ad406, A406_3, c406_3, A406_4, c406_4, e406, hx406_0, hx406_1, hx406_2, hx406_3, hx406_4, hl406_3, hi406_3, hl406_4, hi406_4⟩ := at_T34 HR0_4.out x4_1 p406 q406; obtain rfl : ad402 = ad406 := (by injection e406); replace hx406_0 := (HB.out.cell (World.block_lt_of_cell? w _ hx406_0)).trans hx406_0; replace hx406_1 := (HB.out.cell (World.block_lt_of_cell? w _ hx406_1)).trans hx406_1; replace hx406_2 := (HB.out.cell (World.block_lt_of_cell? w _ hx406_2)).trans hx406_2; replace hx406_3 := (HB.out.cell (World.block_lt_of_cell? w _ hx406_3)).trans hx406_3; replace hx406_4 := (HB.out.cell (World.block_lt_of_cell? w _ hx406_4)).trans hx406_4; have HR406_3 := Aside0.mk hi406_3; have HC406_3 := Aside0.mk hl406_3; clear hi406_3 hl406_3; have HR406_4 := Aside0.mk hi406_4; have HC406_4 := Aside0.mk hl406_4; clear hi406_4 hl406_4; replace p406 := eq_true p406; replace q406 := eq_true q406) | ((with_reducible refine gate_callee (f := 100) rfl ?_); refine goesL_ (some 38) rfl rfl Try.func100 (by kernel_rfl) rfl #[.agg #[.int .i64 ((rd_T34 l0_4 x4_1).f0), .string ((rd_T34 l0_4 x4_1).f1), .int .i64 ((rd_T34 l0_4 x4_1).f2), .slice A406_3 ((rd_T34 l0_4 x4_1).f3).length c406_3, .slice A406_4 ((rd_T34 l0_4 x4_1).f4).length c406_4]] rfl (by (try simp only [List.map_toArray, List.map_cons, List.map_nil]); first | done | rfl | (simp only [List.length_drop, List.length_take]; rfl)) ?_; (with_reducible refine (ih k1 (by have := HK1.out; omega) ((rd_T34 l0_4 x4_1).f0) ((rd_T34 l0_4 x4_1).f1) ((rd_T34 l0_4 x4_1).f2) _ _ ((rd_T34 l0_4 x4_1).f3) _ _ ((rd_T34 l0_4 x4_1).f4) true _ ?side1 ?side2 ?side3 ?side4 A25.out).mono ?_); (case side1 => repeat (first | exact (Kd.C_below HR406_3.out HB.out) | (with_reducible refine Kd.C_alloc ?_ _) | (with_reducible refine Kd.C_drewN ?_ _) | (with_reducible refine Kd.C_drew ?_))); (case side2 => exact HC406_3.out); (case side3 => repeat (first | exact (Kd.C_below HR406_4.out HB.out) | (with_reducible refine Kd.C_alloc ?_ _) | (with_reducible refine Kd.C_drewN ?_ _) | (with_reducible refine Kd.C_drew ?_))); (case side4 => exact HC406_4.out); rintro e w30 ⟨rfl, hb⟩; refine ⟨_, rfl, ?_⟩; have n0_ := Aside0.mk (blk_below (g := gb400) (o := .cells #[.int .i64 a0_0, .string a0_1, .int .i64 a0_2, .slice A0_3 l0_3.length c0_3, .slice (some ad402) l0_4.length c0_4] 34 (0, 0)) (by (with_reducible repeat (first | refine blk_drewN ?_ _ | refine blk_drew ?_ | refine blk_alloc ?_ _)); exact BK400.out) hb); have n1_ := Aside0.mk (below_step (by repeat (first | (with_reducible first | exact HB.out | apply below_alloc | apply pw_below_drewN | apply below_drew1 | refine below_set ?_ GE400.out) | exact HB.out)) hb); clear BK400; clear HB; have BK400 := n0_; have HB := n1_; clear n0_ n1_; (try clear hb); (try clear hb2); (try clear hk); (try clear hi)))
                go_roundg k1
                case measure => have := HK1.out; omega
                case rel => exact ⟨(x3_1), (wrap64 (x4_1 + 1)), (by first | rfl | (simp; done) | (simp [*]; done)), (by first | rfl | (simp; done) | (simp [*]; done)), H', ⟨by have := HK1.out; omega⟩, ⟨by (with_reducible repeat (first | refine blk_drewN ?_ _ | refine blk_drew ?_ | refine blk_alloc ?_ _)); exact BK400.out⟩, ⟨by repeat (first | (with_reducible first | exact HB.out | apply below_alloc | apply pw_below_drewN | apply below_drew1 | refine below_set ?_ GE400.out) | exact HB.out)⟩⟩
              · replace c26 := Bool.eq_false_iff.mpr c26
                subst c26
                have H1 : (some false) = some r := by rw [if_neg (show ¬ (false = true) by decide)] at H; exact H
                clear H
                have H := H1
                clear H1
                obtain rfl := Option.some.inj H
                have hcz31_0 : wr.cell? ⟨gb400, 0, none⟩ = some (.int .i64 a0_0) := (blk_cell BK400.out 0).trans rfl
                have hcz31_1 : wr.cell? ⟨gb400, 1, none⟩ = some (.string a0_1) := (blk_cell BK400.out 1).trans rfl
                have hcz31_2 : wr.cell? ⟨gb400, 2, none⟩ = some (.int .i64 a0_2) := (blk_cell BK400.out 2).trans rfl
                have hcz31_3 : wr.cell? ⟨gb400, 3, none⟩ = some (.slice A0_3 l0_3.length c0_3) := (blk_cell BK400.out 3).trans rfl
                have hcz31_4 : wr.cell? ⟨gb400, 4, none⟩ = some (.slice A0_4 l0_4.length c0_4) := (blk_cell BK400.out 4).trans rfl
                have hfz31_0 := blk_frozen BK400.out 0
                have hfz31_1 := blk_frozen BK400.out 1
                have hfz31_2 := blk_frozen BK400.out 2
                have hfz31_3 := blk_frozen BK400.out 3
                have hfz31_4 := blk_frozen BK400.out 4
                have p402 : 0 ≤ (x4_1 : Int) := of_decide_eq_true (by first | (with_reducible assumption) | assumption)
                have q402 : x4_1 < (l0_4.length : Int) := of_decide_eq_true (by first | (with_reducible assumption) | assumption)
                obtain ⟨ad402, A402_3, c402_3, A402_4, c402_4, e402, hx402_0, hx402_1, hx402_2, hx402_3, hx402_4, hl402_3, hi402_3, hl402_4, hi402_4⟩ := at_T34 HR0_4.out x4_1 p402 q402
                cases e402
                replace hx402_0 := (HB.out.cell (World.block_lt_of_cell? w _ hx402_0)).trans hx402_0
                replace hx402_1 := (HB.out.cell (World.block_lt_of_cell? w _ hx402_1)).trans hx402_1
                replace hx402_2 := (HB.out.cell (World.block_lt_of_cell? w _ hx402_2)).trans hx402_2
                replace hx402_3 := (HB.out.cell (World.block_lt_of_cell? w _ hx402_3)).trans hx402_3
                replace hx402_4 := (HB.out.cell (World.block_lt_of_cell? w _ hx402_4)).trans hx402_4
                have HR402_3 := Aside0.mk hi402_3
                have HC402_3 := Aside0.mk hl402_3
                clear hi402_3 hl402_3
                have HR402_4 := Aside0.mk hi402_4
                have HC402_4 := Aside0.mk hl402_4
                clear hi402_4 hl402_4
                replace p402 := eq_true p402
                replace q402 := eq_true q402
                go_wp2_with (first | ((with_reducible refine gate_callee (f := 109) rfl ?_); refine goesL_ (some 19) rfl rfl Try.func109 (by kernel_rfl) rfl #[.agg #[.int .i64 ((rd_T34 l0_4 x4_1).f0), .string ((rd_T34 l0_4 x4_1).f1), .int .i64 ((rd_T34 l0_4 x4_1).f2), .slice A402_3 ((rd_T34 l0_4 x4_1).f3).length c402_3, .slice A402_4 ((rd_T34 l0_4 x4_1).f4).length c402_4]] rfl (by (try simp only [List.map_toArray, List.map_cons, List.map_nil]); first | done | rfl | (simp only [List.length_drop, List.length_take]; rfl)) ?_; (with_reducible refine (spec_l4Dots.calls ((rd_T34 l0_4 x4_1).f0) ((rd_T34 l0_4 x4_1).f1) ((rd_T34 l0_4 x4_1).f2) _ _ ((rd_T34 l0_4 x4_1).f3) _ _ ((rd_T34 l0_4 x4_1).f4) false _ ?side1 ?side2 ?side3 ?side4 A12.out).mono ?_); (case side1 => repeat (first | exact (Kd.C_below HR402_3.out HB.out) | (with_reducible refine Kd.C_alloc ?_ _) | (with_reducible refine Kd.C_drewN ?_ _) | (with_reducible refine Kd.C_drew ?_))); (case side2 => exact HC402_3.out); (case side3 => repeat (first | exact (Kd.C_below HR402_4.out HB.out) | (with_reducible refine Kd.C_alloc ?_ _) | (with_reducible refine Kd.C_drewN ?_ _) | (with_reducible refine Kd.C_drew ?_))); (case side4 => exact HC402_4.out); rintro e w32 ⟨rfl, hb⟩; refine ⟨_, rfl, ?_⟩; have n0_ := Aside0.mk (blk_below (g := gb400) (o := .cells #[.int .i64 a0_0, .string a0_1, .int .i64 a0_2, .slice A0_3 l0_3.length c0_3, .slice (some ad402) l0_4.length c0_4] 34 (0, 0)) (by (with_reducible repeat (first | refine blk_drewN ?_ _ | refine blk_drew ?_ | refine blk_alloc ?_ _)); exact BK400.out) hb); have n1_ := Aside0.mk (below_step (by repeat (first | (with_reducible first | exact HB.out | apply below_alloc | apply pw_below_drewN | apply below_drew1 | refine below_set ?_ GE400.out) | exact HB.out)) hb); clear BK400; clear HB; have BK400 := n0_; have HB := n1_; clear n0_ n1_; (try clear hb); (try clear hb2); (try clear hk); (try clear hi); have hcz33_0 : w32.cell? ⟨gb400, 0, none⟩ = some (.int .i64 a0_0) := (blk_cell BK400.out 0).trans rfl; have hcz33_1 : w32.cell? ⟨gb400, 1, none⟩ = some (.string a0_1) := (blk_cell BK400.out 1).trans rfl; have hcz33_2 : w32.cell? ⟨gb400, 2, none⟩ = some (.int .i64 a0_2) := (blk_cell BK400.out 2).trans rfl; have hcz33_3 : w32.cell? ⟨gb400, 3, none⟩ = some (.slice A0_3 l0_3.length c0_3) := (blk_cell BK400.out 3).trans rfl; have hcz33_4 : w32.cell? ⟨gb400, 4, none⟩ = some (.slice (some ad402) l0_4.length c0_4) := (blk_cell BK400.out 4).trans rfl; have hfz33_0 := blk_frozen BK400.out 0; have hfz33_1 := blk_frozen BK400.out 1; have hfz33_2 := blk_frozen BK400.out 2; have hfz33_3 := blk_frozen BK400.out 3; have hfz33_4 := blk_frozen BK400.out 4; have p406 : 0 ≤ (x4_1 : Int) := of_decide_eq_true (by first | (with_reducible assumption) | assumption); have q406 : x4_1 < (l0_4.length : Int) := of_decide_eq_true (by first | (with_reducible assumption) | assumption); obtain ⟨ad406, A406_3, c406_3, A406_4, c406_4, e406, hx406_0, hx406_1, hx406_2, hx406_3, hx406_4, hl406_3, hi406_3, hl406_4, hi406_4⟩ := at_T34 HR0_4.out x4_1 p406 q406; obtain rfl : ad402 = ad406 := (by injection e406); replace hx406_0 := (HB.out.cell (World.block_lt_of_cell? w _ hx406_0)).trans hx406_0; replace hx406_1 := (HB.out.cell (World.block_lt_of_cell? w _ hx406_1)).trans hx406_1; replace hx406_2 := (HB.out.cell (World.block_lt_of_cell? w _ hx406_2)).trans hx406_2; replace hx406_3 := (HB.out.cell (World.block_lt_of_cell? w _ hx406_3)).trans hx406_3; replace hx406_4 := (HB.out.cell (World.block_lt_of_cell? w _ hx406_4)).trans hx406_4; have HR406_3 := Aside0.mk hi406_3; have HC406_3 := Aside0.mk hl406_3; clear hi406_3 hl406_3; have HR406_4 := Aside0.mk hi406_4; have HC406_4 := Aside0.mk hl406_4; clear hi406_4 hl406_4; replace p406 := eq_true p406; replace q406 := eq_true q406) | ((with_reducible refine gate_callee (f := 100) rfl ?_); refine goesL_ (some 38) rfl rfl Try.func100 (by kernel_rfl) rfl #[.agg #[.int .i64 ((rd_T34 l0_4 x4_1).f0), .string ((rd_T34 l0_4 x4_1).f1), .int .i64 ((rd_T34 l0_4 x4_1).f2), .slice A406_3 ((rd_T34 l0_4 x4_1).f3).length c406_3, .slice A406_4 ((rd_T34 l0_4 x4_1).f4).length c406_4]] rfl (by (try simp only [List.map_toArray, List.map_cons, List.map_nil]); first | done | rfl | (simp only [List.length_drop, List.length_take]; rfl)) ?_; (with_reducible refine (ih k1 (by have := HK1.out; omega) ((rd_T34 l0_4 x4_1).f0) ((rd_T34 l0_4 x4_1).f1) ((rd_T34 l0_4 x4_1).f2) _ _ ((rd_T34 l0_4 x4_1).f3) _ _ ((rd_T34 l0_4 x4_1).f4) false _ ?side1 ?side2 ?side3 ?side4 A25.out).mono ?_); (case side1 => repeat (first | exact (Kd.C_below HR406_3.out HB.out) | (with_reducible refine Kd.C_alloc ?_ _) | (with_reducible refine Kd.C_drewN ?_ _) | (with_reducible refine Kd.C_drew ?_))); (case side2 => exact HC406_3.out); (case side3 => repeat (first | exact (Kd.C_below HR406_4.out HB.out) | (with_reducible refine Kd.C_alloc ?_ _) | (with_reducible refine Kd.C_drewN ?_ _) | (with_reducible refine Kd.C_drew ?_))); (case side4 => exact HC406_4.out); rintro e w34 ⟨rfl, hb⟩; refine ⟨_, rfl, ?_⟩; have n0_ := Aside0.mk (blk_below (g := gb400) (o := .cells #[.int .i64 a0_0, .string a0_1, .int .i64 a0_2, .slice A0_3 l0_3.length c0_3, .slice (some ad402) l0_4.length c0_4] 34 (0, 0)) (by (with_reducible repeat (first | refine blk_drewN ?_ _ | refine blk_drew ?_ | refine blk_alloc ?_ _)); exact BK400.out) hb); have n1_ := Aside0.mk (below_step (by repeat (first | (with_reducible first | exact HB.out | apply below_alloc | apply pw_below_drewN | apply below_drew1 | refine below_set ?_ GE400.out) | exact HB.out)) hb); clear BK400; clear HB; have BK400 := n0_; have HB := n1_; clear n0_ n1_; (try clear hb); (try clear hb2); (try clear hk); (try clear hi)))
                go_ret
                exact ⟨by first | rfl | (simp [errW_none, errW_some] <;> rfl) | (simp [*, errW_none, errW_some] <;> rfl), by repeat (first | (with_reducible first | exact HB.out | apply below_alloc | apply pw_below_drewN | apply below_drew1 | refine below_set ?_ GE400.out) | exact HB.out)⟩
          · rw [if_neg c11] at H
            exact absurd H (by simp)
        · rw [if_neg c10] at H
          have c10b0 : decide (x4_1 < (l0_4.length : Int)) = false := decide_eq_false c10
          clear c10
          obtain rfl := Option.some.inj H
          have hcz35_0 : wr.cell? ⟨gb400, 0, none⟩ = some (.int .i64 a0_0) := (blk_cell BK400.out 0).trans rfl
          have hcz35_1 : wr.cell? ⟨gb400, 1, none⟩ = some (.string a0_1) := (blk_cell BK400.out 1).trans rfl
          have hcz35_2 : wr.cell? ⟨gb400, 2, none⟩ = some (.int .i64 a0_2) := (blk_cell BK400.out 2).trans rfl
          have hcz35_3 : wr.cell? ⟨gb400, 3, none⟩ = some (.slice A0_3 l0_3.length c0_3) := (blk_cell BK400.out 3).trans rfl
          have hcz35_4 : wr.cell? ⟨gb400, 4, none⟩ = some (.slice A0_4 l0_4.length c0_4) := (blk_cell BK400.out 4).trans rfl
          have hfz35_0 := blk_frozen BK400.out 0
          have hfz35_1 := blk_frozen BK400.out 1
          have hfz35_2 := blk_frozen BK400.out 2
          have hfz35_3 := blk_frozen BK400.out 3
          have hfz35_4 := blk_frozen BK400.out 4
          go_wp2
          go_ret
          exact ⟨by first | rfl | (simp [errW_none, errW_some] <;> rfl) | (simp [*, errW_none, errW_some] <;> rfl), by repeat (first | (with_reducible first | exact HB.out | apply below_alloc | apply pw_below_drewN | apply below_drew1 | refine below_set ?_ GE400.out) | exact HB.out)⟩

/-! ### impl_named: function 74 -/
def impl_named.f (a0_0 : Int) (a0_1 : ByteArray) (a0_2 : Int) (l0_3 : List Int) (l0_4 : List (S34)) (a1 : ByteArray) : Option (Bool) := if a0_0 = 1 then (some (a0_1.toList == a1.toList)) else (some false)
set_option maxHeartbeats 8000000 in
set_option maxRecDepth 100000 in
theorem impl_named.calls (a0_0 : Int) (a0_1 : ByteArray) (a0_2 : Int) (A0_3 : Option Addr) (c0_3 : Nat) (l0_3 : List Int) (A0_4 : Option Addr) (c0_4 : Nat) (l0_4 : List (S34)) (a1 : ByteArray) (r : Bool) (w : World) (hr0_3 : Kd.C (Kd.int .i64) w A0_3 l0_3.length l0_3) (hc0_3 : l0_3.length ≤ c0_3) (hr0_4 : Kd.C k34 w A0_4 l0_4.length l0_4) (hc0_4 : l0_4.length ≤ c0_4) (h : impl_named.f a0_0 a0_1 a0_2 l0_3 l0_4 a1 = some r) :
    Calls Try.prog 74 #[.agg #[.int .i64 a0_0, .string a0_1, .int .i64 a0_2, .slice A0_3 l0_3.length c0_3, .slice A0_4 l0_4.length c0_4], .string a1] w fun e w' => e = .returned (.bool r) ∧ Below w.heap.size w w' := by
  have hu34 := Try.underlying34
  have HR0_3 := Aside0.mk hr0_3
  have HC0_3 := Aside0.mk hc0_3
  clear hr0_3 hc0_3
  have HR0_4 := Aside0.mk hr0_4
  have HC0_4 := Aside0.mk hc0_4
  clear hr0_4 hc0_4
  have HB := Aside0.mk (Below.refl w.heap.size w)
  have H : (if a0_0 = 1 then (some (a0_1.toList == a1.toList)) else (some false)) = some r := h
  clear h
  by_cases c3 : a0_0 = 1
  · rw [if_pos c3] at H
    have c3b0 : (a0_0 == 1) = true := beq_iff_eq.mpr c3
    have c3b1 : (a0_0 != 1) = false := bne_eq_false_iff_eq.mpr c3
    clear c3
    obtain rfl := Option.some.inj H
    go_enter Try.func74, Try.ntmps74
    go_wp2_with (first | ((with_reducible refine gate_dst (N := 2) rfl ?_); refine box_event ?hg (N := 2) ?hd (cs := #[.int .i64 a0_0, .string a0_1, .int .i64 a0_2, .slice A0_3 l0_3.length c0_3, .slice A0_4 l0_4.length c0_4]) (t := 34) ?hr ?_; (case hd => rfl); (case hg => rfl); (case hr => first | (go_simp; done) | (go_simp; rfl)); intro gb426 hg w4 hbox hb; have n0_ := Aside0.mk (below_step (by repeat (first | (with_reducible first | exact HB.out | apply below_alloc | apply pw_below_drewN | apply below_drew1) | exact HB.out)) hb); have n1_ := Aside0.mk (hbox); have n2_ := Aside0.mk ((by rw [hg]; exact (below_size (by repeat (first | (with_reducible first | exact HB.out | apply below_alloc | apply pw_below_drewN | apply below_drew1) | exact HB.out))) : w.heap.size ≤ gb426)); have n3_ := Aside0.mk ((by rw [hg]; exact (below_size (by repeat (first | (with_reducible first | exact HB.out | apply below_alloc | apply pw_below_drewN | apply below_drew1) | exact HB.out))) : w.heap.size ≤ gb426)); clear HB; have HB := n0_; have BK426 := n1_; have GW426 := n2_; have GE426 := n3_; clear n0_ n1_ n2_ n3_; clear hb hbox hg; have hcz5_0 : w4.cell? ⟨gb426, 0, none⟩ = some (.int .i64 a0_0) := (blk_cell BK426.out 0).trans rfl; have hcz5_1 : w4.cell? ⟨gb426, 1, none⟩ = some (.string a0_1) := (blk_cell BK426.out 1).trans rfl; have hcz5_2 : w4.cell? ⟨gb426, 2, none⟩ = some (.int .i64 a0_2) := (blk_cell BK426.out 2).trans rfl; have hcz5_3 : w4.cell? ⟨gb426, 3, none⟩ = some (.slice A0_3 l0_3.length c0_3) := (blk_cell BK426.out 3).trans rfl; have hcz5_4 : w4.cell? ⟨gb426, 4, none⟩ = some (.slice A0_4 l0_4.length c0_4) := (blk_cell BK426.out 4).trans rfl; have hfz5_0 := blk_frozen BK426.out 0; have hfz5_1 := blk_frozen BK426.out 1; have hfz5_2 := blk_frozen BK426.out 2; have hfz5_3 := blk_frozen BK426.out 3; have hfz5_4 := blk_frozen BK426.out 4))
    go_ret
    exact ⟨by first | rfl | (simp [errW_none, errW_some] <;> rfl) | (simp [*, errW_none, errW_some] <;> rfl), by repeat (first | (with_reducible first | exact HB.out | apply below_alloc | apply pw_below_drewN | apply below_drew1 | refine below_set ?_ GE426.out) | exact HB.out)⟩
  · rw [if_neg c3] at H
    have c3b0 : (a0_0 == 1) = false := beq_eq_false_iff_ne.mpr c3
    have c3b1 : (a0_0 != 1) = true := bne_iff_ne.mpr c3
    obtain rfl := Option.some.inj H
    go_enter Try.func74, Try.ntmps74
    go_wp2_with (first | ((with_reducible refine gate_dst (N := 2) rfl ?_); refine box_event ?hg (N := 2) ?hd (cs := #[.int .i64 a0_0, .string a0_1, .int .i64 a0_2, .slice A0_3 l0_3.length c0_3, .slice A0_4 l0_4.length c0_4]) (t := 34) ?hr ?_; (case hd => rfl); (case hg => rfl); (case hr => first | (go_simp; done) | (go_simp; rfl)); intro gb426 hg w6 hbox hb; have n0_ := Aside0.mk (below_step (by repeat (first | (with_reducible first | exact HB.out | apply below_alloc | apply pw_below_drewN | apply below_drew1) | exact HB.out)) hb); have n1_ := Aside0.mk (hbox); have n2_ := Aside0.mk ((by rw [hg]; exact (below_size (by repeat (first | (with_reducible first | exact HB.out | apply below_alloc | apply pw_below_drewN | apply below_drew1) | exact HB.out))) : w.heap.size ≤ gb426)); have n3_ := Aside0.mk ((by rw [hg]; exact (below_size (by repeat (first | (with_reducible first | exact HB.out | apply below_alloc | apply pw_below_drewN | apply below_drew1) | exact HB.out))) : w.heap.size ≤ gb426)); clear HB; have HB := n0_; have BK426 := n1_; have GW426 := n2_; have GE426 := n3_; clear n0_ n1_ n2_ n3_; clear hb hbox hg; have hcz7_0 : w6.cell? ⟨gb426, 0, none⟩ = some (.int .i64 a0_0) := (blk_cell BK426.out 0).trans rfl; have hcz7_1 : w6.cell? ⟨gb426, 1, none⟩ = some (.string a0_1) := (blk_cell BK426.out 1).trans rfl; have hcz7_2 : w6.cell? ⟨gb426, 2, none⟩ = some (.int .i64 a0_2) := (blk_cell BK426.out 2).trans rfl; have hcz7_3 : w6.cell? ⟨gb426, 3, none⟩ = some (.slice A0_3 l0_3.length c0_3) := (blk_cell BK426.out 3).trans rfl; have hcz7_4 : w6.cell? ⟨gb426, 4, none⟩ = some (.slice A0_4 l0_4.length c0_4) := (blk_cell BK426.out 4).trans rfl; have hfz7_0 := blk_frozen BK426.out 0; have hfz7_1 := blk_frozen BK426.out 1; have hfz7_2 := blk_frozen BK426.out 2; have hfz7_3 := blk_frozen BK426.out 3; have hfz7_4 := blk_frozen BK426.out 4))
    go_ret
    exact ⟨by first | rfl | (simp [errW_none, errW_some] <;> rfl) | (simp [*, errW_none, errW_some] <;> rfl), by repeat (first | (with_reducible first | exact HB.out | apply below_alloc | apply pw_below_drewN | apply below_drew1 | refine below_set ?_ GE426.out) | exact HB.out)⟩

end Go.Proofs.Ytlklclebjeeaaaa.Q
end
