/- Words for the laws' proofs (part 2): contracts of functions, and plain lemmas. -/
import Derived.Deep.RegionHeld3
import Derived.Ground.Names2Prog
import Derived.IntWalk
import Derived.Laws.IdiomStrings
import Derived.Lib.Bytealg
import Derived.Lib.LazyBuf
import Derived.Lib.SliceRun
import Derived.Lib.Strings
import Derived.Shelf.Slices.Empties
import Derived.Shelf.Slices.SearchI
import Derived.Shelf.Spec.SlicesInsertGrow
import Derived.Test.YtnaefjilcabkoaaKe1
section
namespace Go.Proofs.Ytnaefjilcabkoaa
open Go.RowKit Go.Proofs.YtnaefjilcabkoaaW.PrintWords Go.Proofs.YtnaefjilcabkoaaW.PrintLast Go.Proofs.YtnaefjilcabkoaaW.PrintMore
set_option linter.unusedVariables false
set_option linter.unusedSimpArgs false

theorem infoF : (Try.prog.info? 29).map (fun i => (i.zero, i.size, i.bytes)) = some (some (.agg #[(.int .i64 0), (.string ⟨#[]⟩), (.int .i64 0), (.slice none 0 0), (.slice none 0 0)]), 5, 80) := by kernel_rfl
/-- A form in new memory, from block B on. -/
def NewF (B : Nat) (w' : World) (x : Fm) (v3 v4 : Value) : Prop := ∃ fp, TrF w' x v3 v4 fp ∧ fp.Nodup ∧ ∀ b, b ∈ fp → B ≤ b
/-- A list of forms in new memory, from block B on. -/
def NewL (B : Nat) (w' : World) (ks : List Fm) (v : Value) : Prop := ∃ inner fp, w'.ownsRow 0 29 5 v ks.length inner ∧ TrL w' ks inner fp ∧ (obs v ++ fp).Nodup ∧ ∀ b, b ∈ obs v ++ fp → B ≤ b
def RetF (w : World) (x : Fm) (e : Ending) (w' : World) : Prop := ∃ v3 v4, e = .returned (.agg #[.int .i64 x.f0, .string x.f1, .int .i64 x.f2, v3, v4]) ∧ NewF w.heap.size w' x v3 v4 ∧ Below w.heap.size w w'
def RetL (w : World) (ks : List Fm) (e : Ending) (w' : World) : Prop := ∃ v, e = .returned v ∧ NewL w.heap.size w' ks v ∧ Below w.heap.size w w'

/-- As the print tells what is the call's own. -/
theorem TrF.R {w : World} {B : Nat} : ∀ (x : Fm) {v3 v4 : Value} {fp : List Nat} {ok : Nat → Prop}, TrF w x v3 v4 fp → fp.Nodup → (∀ b, b ∈ fp → B ≤ b) → (∀ b, b ∈ fp → ok b) → kI.R 3 w B ok v3 x.f3 ∧ kF.R 29 w B (fun k => ok k ∧ some k ≠ v3.ownBlock) v4 x.f4 := by
  intro x
  induction x using Fm.ind with
  | h x ih =>
    intro v3 v4 fp ok h hnd hge hok
    obtain ⟨inner, fk, rfl, h3, h4, hk⟩ := h.open
    obtain ⟨n1, n2, n3⟩ := List.nodup_append.1 hnd
    obtain ⟨n4, n5, n6⟩ := List.nodup_append.1 n2
    refine ⟨Kd.R_of_own (own_base_ h3 (fun b hb => hge b (by simp [obs_mem, hb]))) (fun k hk => hok k (by simp [obs_mem, hk])), fun k hk => ⟨hok k (by simp [obs_mem, hk]), fun he => n3 k (obs_mem.2 he.symm) k (by simp [obs_mem, hk]) rfl⟩, inner, own_base_ h4 (fun b hb => hge b (by simp [obs_mem, hb])), ?_⟩
    have key : ∀ (ks : List Fm), (∀ k, k ∈ ks → k ∈ x.f4) → ∀ {inner : List Value} {fk : List Nat}, TrL w ks inner fk → fk.Nodup → (∀ b, b ∈ fk → B ≤ b) → (∀ b, b ∈ fk → ok b ∧ some b ≠ v3.ownBlock ∧ some b ≠ v4.ownBlock) → Reps (kF.M w B (fun k => (ok k ∧ some k ≠ v3.ownBlock) ∧ some k ≠ v4.ownBlock)) 5 ks inner := by
      intro ks
      induction ks with
      | nil => intro _ inner fk h _ _ _; obtain ⟨rfl, rfl⟩ := h.nil_inv; exact Reps.none _ _
      | cons k ks ih2 =>
        intro hsub inner fk h hnd hge hok
        obtain ⟨u3, u4, rest, f1, f2, rfl, rfl, hk, hs⟩ := h.cons_inv
        obtain ⟨m1, m2, m3⟩ := List.nodup_append.1 hnd
        have hR := ih k (hsub k List.mem_cons_self) (ok := fun k => (ok k ∧ some k ≠ v3.ownBlock) ∧ some k ≠ v4.ownBlock) hk m1 (fun b hb => hge b (List.mem_append_left _ hb)) (fun b hb => ⟨⟨(hok b (List.mem_append_left _ hb)).1, (hok b (List.mem_append_left _ hb)).2.1⟩, (hok b (List.mem_append_left _ hb)).2.2⟩)
        have hr := ih2 (fun k hk => hsub k (List.mem_cons_of_mem _ hk)) hs m2 (fun b hb => hge b (List.mem_append_right _ hb)) (fun b hb => hok b (List.mem_append_right _ hb))
        refine ⟨by rw [List.length_append, hr.1]; simp; omega, fun j p hj => ?_⟩
        cases j with
        | zero =>
          have : k = p := by simpa using hj
          subst this
          simpa using kF_mkM hR.1 (Kd.R_mono hR.2 (fun _ h => h.1))
        | succ j =>
          have h2 := hr.2 j p (by simpa using hj)
          rw [show (j + 1) * 5 = 5 + j * 5 from by omega, ← List.drop_drop]
          simpa using h2
    refine key x.f4 (fun _ h => h) hk n5 (fun b hb => hge b (by simp [hb])) (fun b hb => ⟨hok b (by simp [hb]), fun he => n3 b (obs_mem.2 he.symm) b (by simp [hb]) rfl, fun he => n6 b (obs_mem.2 he.symm) b hb rfl⟩)
theorem trz (w : World) : TrF w zFm (.slice none 0 0) (.slice none 0 0) [] := by
  have := TrF.mk (w := w) zFm (.slice none 0 0) (.slice none 0 0) [] [] (own_nil _ _ _ _) (own_nil _ _ _ _) .nil
  simpa [obs, Value.ownBlock] using this
abbrev zc : List Value := [.int .i64 0, .string ⟨#[]⟩, .int .i64 0, .slice none 0 0, .slice none 0 0]
theorem zc_raw (w : World) (base : Nat) (ok : Nat → Prop) : (Kd.raw 5).M w base ok zc (Value.agg #[(.int .i64 0), (.string ⟨#[]⟩), (.int .i64 0), (.slice none 0 0), (.slice none 0 0)]).cells.toList := by
  refine ⟨rfl, rfl, fun u hu => ?_⟩
  have hu' : u ∈ zc := hu
  simp only [zc, List.mem_cons, List.not_mem_nil, or_false] at hu'
  rcases hu' with rfl | rfl | rfl | rfl | rfl <;> rfl
theorem reps_flat {sz : Nat} (hs : 0 < sz) : ∀ (rows : List (List Value)) (inner : List Value), Reps (fun x cs => cs = x ∧ cs.length = sz ∧ ∀ u ∈ cs, u.oneCell' = true) sz rows inner → inner = rows.flatten := by
  intro rows
  induction rows with
  | nil => intro inner h; have := h.1; simp at this; simp [this]
  | cons r rows ih =>
    intro inner h
    have h0 := h.2 0 r rfl
    simp only [Nat.zero_mul, List.drop_zero] at h0
    have h1 : Reps (fun x cs => cs = x ∧ cs.length = sz ∧ ∀ u ∈ cs, u.oneCell' = true) sz rows (inner.drop sz) := by
      refine ⟨by rw [List.length_drop, h.1, List.length_cons, Nat.add_mul]; omega, fun j p hj => ?_⟩
      have := h.2 (j + 1) p (by simpa using hj)
      rwa [Nat.add_mul, Nat.one_mul, Nat.add_comm, ← List.drop_drop] at this
    rw [List.flatten_cons, ← ih _ h1, ← h0.1, List.take_append_drop]
/-- What make([]Form, n) leaves. -/
theorem zeros_of {w : World} {base : Nat} {ok : Nat → Prop} {v : Value} {n : Nat} (h : (Kd.raw 5).R 29 w base ok v (List.replicate n zc)) : w.ownsRow 0 29 5 v n (List.replicate n zc).flatten := by
  obtain ⟨_, inner, ho, hr⟩ := h
  rw [reps_flat (by omega) _ _ hr, List.length_replicate] at ho
  exact own_weaken ho (Nat.zero_le _)
def ToForm (x : Fm) : Prop := ∀ (A3 : Option Addr) (c3 : Nat) (A4 : Option Addr) (c4 : Nat) (w : World), FmIn w x A3 c3 A4 c4 → x.tot ≤ 1048576 →
    Calls Try.prog 16 #[.agg #[.int .i64 x.f0, .string x.f1, .int .i64 x.f2, .slice A3 x.f3.length c3, .slice A4 x.f4.length c4]] w (RetF w x)
set_option maxHeartbeats 4000000 in
theorem toFormS_of (ks : List Fm) (hks : ∀ k, k ∈ ks → ToForm k) (A : Option Addr) (c : Nat) (w : World) (hr : kF.C w A ks.length ks) (hc : ks.length ≤ c) (ht : totL ks ≤ 1048576) :
    Calls Try.prog 46 #[.slice A ks.length c] w (RetL w ks) := by
  have hmax := hr.2.1
  have hlen := len_totL ks
  have HK := Lib.hid hks
  clear hks
  go_enter Try.func46, Try.ntmps46
  go_wp2_with (first | ((with_reducible refine gate_dst (N := 7) rfl ?_); refine Kd.R_make (Kd.raw 5) _ 29 rfl (N := 7) rfl 27 _ _ rfl (ks.length : Int) rfl rfl Try.underlying27 (.agg #[(.int .i64 0), (.string ⟨#[]⟩), (.int .i64 0), (.slice none 0 0), (.slice none 0 0)]) 80 infoF rfl (by decide) (by omega) zc (ok := fun _ => True) (okp := fun _ => True) (zc_raw _ _ _) (fun _ hk => hk) trivial (by omega) (by omega) (Below.refl _ _) (Nat.le_refl _) ?_; intro v0 w0 ho0 hb0 hg0 hn0))
  rw [Int.toNat_natCast] at ho0
  have hz := zeros_of ho0
  obtain ⟨bn, hbn1, hbn2⟩ := hn0
  go_loopg [4] ks.length (fun kq v4 w' => ∃ i : Nat, i ≤ ks.length ∧ ks.length - i ≤ kq ∧ v4 = .int .i64 i ∧ Aside0 (∃ inner fp, w'.ownsRow 0 29 5 v0 ks.length (inner ++ (List.replicate (ks.length - i) zc).flatten) ∧ TrL w' (ks.take i) inner fp ∧ (obs v0 ++ fp).Nodup ∧ ∀ b, b ∈ obs v0 ++ fp → w.heap.size ≤ b) ∧ Aside0 (Below w.heap.size w w'))
  case atStart =>
    refine ⟨0, Nat.zero_le _, by omega, rfl, ⟨[], [], by simpa using hz, by simpa using TrL.nil, by simp [obs, hbn1], by simpa [obs, hbn1] using hbn2⟩, ⟨hb0⟩⟩
  case round =>
    obtain ⟨i, hi, hg, rfl, HO, HW⟩ := hrel
    clear ho0 hz hb0 hg0 hbn1 hbn2
    by_cases hlt : i < ks.length
    · obtain ⟨ad, B3, d3, B4, d4, e, g0, g1, g2, g3, g4, hk⟩ := kid_at (Kd.C_below hr HW.out) i hlt
      subst e
      have hkt := totL_mem (List.getElem_mem hlt)
      have HC := Lib.hid (HK.out ks[i] (List.getElem_mem hlt) B3 d3 B4 d4 wr hk (by omega))
      clear hk
      go_wp2_with fail
      refine HC.out.mono ?_
      rintro e w1 ⟨v3, v4, rfl, HN, hb1⟩
      obtain ⟨C3, j3, C4, j4, e3, e4⟩ : ∃ C3 j3 C4 j4, v3 = .slice C3 ks[i].f3.length j3 ∧ v4 = .slice C4 ks[i].f4.length j4 := by
        obtain ⟨fk, hkt2, _⟩ := HN
        obtain ⟨C3, j3, C4, j4, e3, e4, _⟩ := hkt2.In
        exact ⟨C3, j3, C4, j4, e3, e4⟩
      subst e3
      subst e4
      have HO2 := HO.out
      clear HO
      obtain ⟨inner, fp, ho, htr, hnd, hge⟩ := HO2
      rw [show ks.length - i = (ks.length - (i + 1)) + 1 from by omega, List.replicate_succ, List.flatten_cons] at ho
      obtain ⟨g, cap, e, hg0, hg1⟩ := ho.form (by omega)
      subst e
      have ho1 := own_move (w1 := w1) ho (fun k hk => by
        have : g = k := by simpa [Value.ownBlock] using hk
        subst this
        exact hb1.block g hg1)
      have htr1 := htr.later hb1
      have hl := htr.len
      rw [List.length_take, Nat.min_eq_left hi] at hl
      obtain ⟨⟨q0, q1, q2, q3, q4⟩, hfz, hput⟩ := row_put ho1 hl
      have z0 := hfz (i * 5)
      have z1 := hfz (i * 5 + 1)
      have z2 := hfz (i * 5 + 2)
      have z3 := hfz (i * 5 + 3)
      have z4 := hfz (i * 5 + 4)
      have hgw : w.heap.size ≤ g := hge g (by simp [obs, Value.ownBlock])
      have HF : Hid (∃ inner' fp', (set5 w1 g (i * 5) (.int .i64 ks[i].f0) (.string ks[i].f1) (.int .i64 ks[i].f2) (.slice C3 ks[i].f3.length j3) (.slice C4 ks[i].f4.length j4)).ownsRow 0 29 5 (.slice (some ⟨g, 0, none⟩) ks.length cap) ks.length (inner' ++ (List.replicate (ks.length - (i + 1)) zc).flatten) ∧ TrL (set5 w1 g (i * 5) (.int .i64 ks[i].f0) (.string ks[i].f1) (.int .i64 ks[i].f2) (.slice C3 ks[i].f3.length j3) (.slice C4 ks[i].f4.length j4)) (ks.take (i + 1)) inner' fp' ∧ (obs (.slice (some ⟨g, 0, none⟩) ks.length cap) ++ fp').Nodup ∧ ∀ b, b ∈ obs (.slice (some ⟨g, 0, none⟩) ks.length cap) ++ fp' → w.heap.size ≤ b) := by
        obtain ⟨fk, hkt2, hknd, hkge⟩ := HN
        have hold : ∀ b, b ∈ obs (Value.slice (some ⟨g, 0, none⟩) ks.length cap) ++ fp → b < wr.heap.size := by
          intro b hb
          rcases List.mem_append.1 hb with hb | hb
          · have : b = g := by simpa [obs, Value.ownBlock] using hb
            omega
          · exact htr.lt _ b hb
        have hgf : ∀ b, b ∈ fp → b ≠ g := by
          intro b hb he
          subst he
          rw [show obs (Value.slice (some ⟨b, 0, none⟩) ks.length cap) = [b] from rfl] at hnd
          simp [hb] at hnd
        have hgk : ∀ b, b ∈ fk → b ≠ g := by
          intro b hb he
          have := hkge b hb
          omega
        refine ⟨inner ++ [.int .i64 ks[i].f0, .string ks[i].f1, .int .i64 ks[i].f2, .slice C3 ks[i].f3.length j3, .slice C4 ks[i].f4.length j4], fp ++ fk, ?_, ?_, ?_, ?_⟩
        · rw [List.append_assoc]
          exact hput _ _ _ _ _
        · rw [List.take_succ_eq_append_getElem hlt]
          exact (htr1.move _ (fun b hb => set5_far _ _ _ _ _ _ _ _ b (hgf b hb))).append (TrL.one (hkt2.move _ (fun b hb => set5_far _ _ _ _ _ _ _ _ b (hgk b hb))))
        · rw [← List.append_assoc, List.nodup_append]
          refine ⟨hnd, hknd, fun a ha b hb he => ?_⟩
          have h1 := hold a ha
          have h2 := hkge b hb
          omega
        · intro b hb
          rw [← List.append_assoc] at hb
          rcases List.mem_append.1 hb with hb | hb
          · exact hge b hb
          · have h2 := hkge b hb
            have := HW.out.size
            omega
      have HB := Lib.hid (set5_below (below_step HW.out hb1) hgw (i * 5) (.int .i64 ks[i].f0) (.string ks[i].f1) (.int .i64 ks[i].f2) (.slice C3 ks[i].f3.length j3) (.slice C4 ks[i].f4.length j4))
      clear HN ho ho1 htr htr1 hnd hge hl hfz hput hgw hg0 hg1
      go_wp2_with fail
      go_roundg (ks.length - (i + 1))
      case measure => omega
      case rel => exact ⟨i + 1, by omega, Nat.le_refl _, by go_num, ⟨HF.out⟩, ⟨HB.out⟩⟩
    · obtain rfl : i = ks.length := by omega
      have HF : Hid (NewL w.heap.size wr ks v0) := by
        obtain ⟨inner, fp, ho, htr, hnd, hge⟩ := HO.out
        rw [Nat.sub_self] at ho
        rw [List.take_length] at htr
        exact ⟨inner, fp, by simpa using ho, htr, hnd, hge⟩
      clear HO
      go_wp2_with fail
      go_ret
      exact ⟨_, rfl, HF.out, HW.out⟩
set_option maxHeartbeats 4000000 in
theorem toForm_any (x : Fm) : ToForm x := by
  induction x using Fm.ind with
  | h x ih =>
    intro A3 c3 A4 c4 w hin ht
    have hs := Fm.tot_eq x
    have hs3 : x.f3.length ≤ 1048576 := by omega
    have hs4 : totL x.f4 ≤ 1048576 := by omega
    clear hs ht
    have H3 := Lib.hid (fun W hb => toIntS_any x.f3 A3 c3 W (Kd.C_below hin.g3 hb) hin.l3 (by omega))
    have H4 := Lib.hid (fun W hb => toFormS_of x.f4 ih A4 c4 W (Kd.C_below hin.g4 hb) hin.l4 hs4)
    clear ih hin
    go_enter Try.func16, Try.ntmps16
    go_wp2_with fail
    refine (H3.out _ (below_step (below_step (below_new _ _) (below_new _ _)) (below_new _ _))).mono ?_
    rintro e w1 ⟨v3, rfl, hR3, hb1⟩
    obtain ⟨k0, k1, k2, b1⟩ := three_new hb1
    clear hb1
    obtain ⟨p0, p1, p2, p3, p4⟩ := fm_cells k0
    obtain ⟨q0, q1, q2, q3, q4⟩ := fm_cells k2
    obtain ⟨f0, f1, f2, f3, f4⟩ := fm_free k2
    obtain ⟨D3, e3, r3, _, _⟩ := Kd.R_reads hR3
    subst r3
    go_wp2_with fail
    have bw := below_set b1 (show w.heap.size ≤ w.heap.size + 1 + 1 by omega) (j := 3) (v := .slice D3 x.f3.length e3)
    refine (H4.out _ bw).mono ?_
    rintro e w2 ⟨v4, rfl, HL, hb2⟩
    have m2 := blk_below (by simpa using blk_set k2 3 (.slice D3 x.f3.length e3)) hb2
    have m1 := blk_below (blk_far k1 (p := ⟨w.heap.size + 1 + 1, 3, none⟩) (by simp) (.slice D3 x.f3.length e3)) hb2
    have b2 := below_step bw hb2
    obtain ⟨s0, s1, s2, s3, s4⟩ := fm_cells m2
    obtain ⟨t0, t1, t2, t3, t4⟩ := fm_free m2
    obtain ⟨u0, u1, u2, u3, u4⟩ := fm_cells m1
    obtain ⟨y0, y1, y2, y3, y4⟩ := fm_free m1
    have h3b := Kd.R_base hR3
    have h3l := Kd.R_lt hR3
    have h3o := Kd.own_of_R hR3
    obtain ⟨inner, fp, h4o, htl, hnd, hge⟩ := HL
    obtain ⟨D4, e4, hd4, _, _⟩ := htl.C h4o
    subst hd4
    have hwsz : ((((w.alloc (.cells #[.int .i64 x.f0, .string x.f1, .int .i64 x.f2, .slice A3 x.f3.length c3, .slice A4 x.f4.length c4] 25)).alloc (.cells #[.int .i64 0, .string ⟨#[]⟩, .int .i64 0, .slice none 0 0, .slice none 0 0] 29)).alloc (.cells #[.int .i64 x.f0, .string x.f1, .int .i64 x.f2, .slice none 0 0, .slice none 0 0] 29)) : World).heap.size = w.heap.size + 3 := by simp
    have HF : Hid (∀ W, (∀ b, b ≠ w.heap.size + 1 → b ≠ w.heap.size + 1 + 1 → W.heap[b]? = w2.heap[b]?) → NewF w.heap.size W x (.slice D3 x.f3.length e3) (.slice D4 x.f4.length e4)) := by
      intro W hW
      have hsz1 := k2
      have hlt1 : w.heap.size + 1 + 1 < w1.heap.size := blk_lt k2
      have hge2 : ∀ b, b ∈ obs (.slice D4 x.f4.length e4) ++ fp → w1.heap.size ≤ b := by
        intro b hb
        have := hge b hb
        simpa using this
      have hge3 : ∀ b, b ∈ obs (.slice D3 x.f3.length e3) → w.heap.size + 1 + 1 < b ∧ b < w1.heap.size := by
        intro b hb
        have e := obs_mem.1 hb
        have h1 := h3b b e
        have h2 := h3l b e
        simp at h1
        omega
      refine ⟨_, .mk x _ _ inner fp ?_ ?_ ?_, ?_, ?_⟩
      · refine own_move (own_weaken h3o (Nat.zero_le _)) (fun k hk => ?_)
        have hk2 := hge3 k (obs_mem.2 hk)
        rw [hW k (by omega) (by omega), hb2.block k (by simp; omega), Below.heap_setCell _ _ _ _ (by simp; omega)]
      · refine own_move h4o (fun k hk => ?_)
        have hk2 := hge2 k (List.mem_append_left _ (obs_mem.2 hk))
        exact hW k (by omega) (by omega)
      · refine htl.move _ (fun k hk => ?_)
        have hk2 := hge2 k (List.mem_append_right _ hk)
        exact hW k (by omega) (by omega)
      · rw [List.nodup_append]
        refine ⟨?_, hnd, fun a ha b hb he => ?_⟩
        · unfold obs
          cases (Value.slice D3 x.f3.length e3).ownBlock <;> simp
        · have h1 := hge3 a ha
          have h2 := hge2 b hb
          omega
      · intro b hb
        rcases List.mem_append.1 hb with hb | hb
        · have := hge3 b hb
          omega
        · have := hge2 b hb
          omega
    clear h3b h3l h3o h4o htl hnd hge hwsz hR3 k0 k1 k2 m1 m2 hb2 bw H3 H4
    go_wp2_with fail
    refine bodyPost_ret (v := .agg #[.int .i64 x.f0, .string x.f1, .int .i64 x.f2, .slice D3 x.f3.length e3, .slice D4 x.f4.length e4]) (by simp [results, Try.results16, go_sem, u0, u1, u2, u3, u4]) rfl ⟨_, _, rfl, HF.out _ (fun b hb1 hb2 => ?_), ?_⟩
    · rw [Below.heap_setCell _ _ _ b hb1, Below.heap_setCell _ _ _ b hb1, Below.heap_setCell _ _ _ b hb1, Below.heap_setCell _ _ _ b hb1, Below.heap_setCell _ _ _ b hb1, Below.heap_setCell _ _ _ b hb2]
    · repeat (refine below_set ?_ (by omega))
      exact b2
end Go.Proofs.Ytnaefjilcabkoaa
end
section
namespace Go.Proofs.Ytnaefjilcabkoaa
open Go.RowKit Go.Proofs.YtnaefjilcabkoaaW.PrintWords Go.Proofs.YtnaefjilcabkoaaW.PrintLast Go.Proofs.YtnaefjilcabkoaaW.PrintMore
set_option linter.unusedVariables false
set_option linter.unusedSimpArgs false

noncomputable def eqB {α : Type} (x y : α) : Bool := @decide (x = y) (Classical.propDecidable _)
theorem eqB_iff {α : Type} {x y : α} : eqB x y = true ↔ x = y := by unfold eqB; exact @decide_eq_true_iff _ (Classical.propDecidable _)
theorem eqB_self {α : Type} (x : α) : eqB x x = true := eqB_iff.2 rfl
theorem eqB_no {α : Type} {x y : α} (h : x ≠ y) : false = eqB x y := by
  cases hb : eqB x y with
  | true => exact absurd (eqB_iff.1 hb) h
  | false => rfl
theorem eqB_yes {α : Type} {x y : α} (h : x = y) : true = eqB x y := (eqB_iff.2 h).symm
theorem toList_inj {a b : ByteArray} (h : a.toList = b.toList) : a = b := by
  have e : ∀ s : ByteArray, s.toList = s.data.toList := fun s => by rw [ByteArray.toList_eq]
  rw [e, e] at h
  cases a; cases b
  simp only at h
  rw [Array.toList_inj.1 h]
theorem Fm.ext' {x y : Fm} (h1 : x.f0 = y.f0) (h2 : x.f1 = y.f1) (h3 : x.f2 = y.f2) (h4 : x.f3 = y.f3) (h5 : x.f4 = y.f4) : x = y := by
  cases x; cases y; simp_all
def EqForm (x : Fm) : Prop := ∀ (y : Fm) (A3 : Option Addr) (c3 : Nat) (A4 : Option Addr) (c4 : Nat) (B3 : Option Addr) (d3 : Nat) (B4 : Option Addr) (d4 : Nat) (w : World), FmIn w x A3 c3 A4 c4 → FmIn w y B3 d3 B4 d4 →
    Calls Try.prog 18 #[.agg #[.int .i64 x.f0, .string x.f1, .int .i64 x.f2, .slice A3 x.f3.length c3, .slice A4 x.f4.length c4], .agg #[.int .i64 y.f0, .string y.f1, .int .i64 y.f2, .slice B3 y.f3.length d3, .slice B4 y.f4.length d4]] w (Ret w (.bool (eqB x y)))
set_option maxHeartbeats 4000000 in
set_option maxRecDepth 100000 in
theorem eqFormS_of (ks ls : List Fm) (hks : ∀ k, k ∈ ks → EqForm k) (A B : Option Addr) (c d : Nat) (w : World) (hr : kF.C w A ks.length ks) (hc : ks.length ≤ c) (hr2 : kF.C w B ls.length ls) (hc2 : ls.length ≤ d) :
    Calls Try.prog 48 #[.slice A ks.length c, .slice B ls.length d] w (Ret w (.bool (eqB ks ls))) := by
  have hmax := hr.2.1
  by_cases hl : ks.length = ls.length
  · have hl1 : ((ks.length : Int) == (ls.length : Int)) = true := by simp [hl]
    have hl2 : ((ks.length : Int) != (ls.length : Int)) = false := by simp [hl]
    have hl3 : (ks.length == ls.length) = true := by simp [hl]
    have hl4 : (ks.length != ls.length) = false := by simp [hl]
    have HL := Lib.hid hl
    have HK := Lib.hid hks
    clear hl hks
    go_enter Try.func48, Try.ntmps48
    go_wp2_with fail
    go_loopg [5] ks.length (fun kq v5 w' => ∃ i : Nat, i ≤ ks.length ∧ ks.length - i ≤ kq ∧ v5 = .int .i64 i ∧ Aside0 (∀ j (h : j < ks.length) (h2 : j < ls.length), j < i → ks[j] = ls[j]) ∧ Aside0 (Below w.heap.size w w'))
    case atStart => exact ⟨0, Nat.zero_le _, by omega, rfl, ⟨fun j _ _ h => absurd h (by omega)⟩, ⟨Below.refl _ _⟩⟩
    case round =>
      obtain ⟨i, hi, hg, rfl, HN, HW⟩ := hrel
      by_cases hlt : i < ks.length
      · have hlt2 : i < ls.length := by have := HL.out; omega
        obtain ⟨ad, B3, d3, B4, d4, e, g0, g1, g2, g3, g4, hk⟩ := kid_at (Kd.C_below hr HW.out) i hlt
        subst e
        obtain ⟨ad2, E3, f3, E4, f4, e2, h0, h1, h2, h3, h4, hk2⟩ := kid_at (Kd.C_below hr2 HW.out) i hlt2
        subst e2
        have HC := Lib.hid (fun W (hb : Below wr.heap.size wr W) => HK.out ks[i] (List.getElem_mem hlt) ls[i] B3 d3 B4 d4 E3 f3 E4 f4 W (hk.below hb) (hk2.below hb))
        clear hk hk2
        have p1 : (0 : Int) ≤ (i : Int) := by omega
        have p2 : (i : Int) < (ks.length : Int) := by omega
        have p3 : (i : Int) < (ls.length : Int) := by omega
        go_wp2_with fail
        go_region_held3 (fun w' => w'.cell? (ad.add (i * 5)) = some (.int .i64 ks[i].f0) ∧ w'.cell? ⟨(ad.add (i * 5)).block, (ad.add (i * 5)).off + 1, none⟩ = some (.string ks[i].f1) ∧ w'.cell? ⟨(ad.add (i * 5)).block, (ad.add (i * 5)).off + 2, none⟩ = some (.int .i64 ks[i].f2) ∧ w'.cell? ⟨(ad.add (i * 5)).block, (ad.add (i * 5)).off + 3, none⟩ = some (.slice B3 ks[i].f3.length d3) ∧ w'.cell? ⟨(ad.add (i * 5)).block, (ad.add (i * 5)).off + 4, none⟩ = some (.slice B4 ks[i].f4.length d4) ∧ w'.cell? (ad2.add (i * 5)) = some (.int .i64 ls[i].f0) ∧ w'.cell? ⟨(ad2.add (i * 5)).block, (ad2.add (i * 5)).off + 1, none⟩ = some (.string ls[i].f1) ∧ w'.cell? ⟨(ad2.add (i * 5)).block, (ad2.add (i * 5)).off + 2, none⟩ = some (.int .i64 ls[i].f2) ∧ w'.cell? ⟨(ad2.add (i * 5)).block, (ad2.add (i * 5)).off + 3, none⟩ = some (.slice E3 ls[i].f3.length f3) ∧ w'.cell? ⟨(ad2.add (i * 5)).block, (ad2.add (i * 5)).off + 4, none⟩ = some (.slice E4 ls[i].f4.length f4)) (first | go_keep | exact ⟨ck hb1 g0, ck hb1 g1, ck hb1 g2, ck hb1 g3, ck hb1 g4, ck hb1 h0, ck hb1 h1, ck hb1 h2, ck hb1 h3, ck hb1 h4⟩) ((go_at_call 18; refine (HC.out _ (Below.refl _ _).drew).mono ?_; rintro e w1 ⟨rfl, hb1⟩))
        cases he : eqB ks[i] ls[i] with
        | true =>
          have HE := Lib.hid (eqB_iff.1 he)
          clear he
          go_wp2_with fail
          go_roundg (ks.length - (i + 1))
          case measure => omega
          case rel =>
            refine ⟨i + 1, by omega, Nat.le_refl _, by go_num, ⟨fun j hj hj2 hji => ?_⟩, ⟨below_step HW.out (below_step (Below.refl _ _).drew hb1)⟩⟩
            rcases Nat.lt_or_ge j i with h | h
            · exact HN.out j hj hj2 h
            · obtain rfl : j = i := by omega
              exact HE.out
        | false =>
          have HE := Lib.hid he
          clear he
          go_wp2_with fail
          go_ret
          refine ⟨ret_b (eqB_no (fun h => ?_)), below_step HW.out (below_step (Below.refl _ _).drew hb1)⟩
          have := HE.out
          subst h
          rw [eqB_self] at this
          cases this
      · obtain rfl : i = ks.length := by omega
        go_wp2_with fail
        go_ret
        exact ⟨ret_b (eqB_yes (List.ext_getElem HL.out (fun j hj hj2 => HN.out j hj hj2 hj))), HW.out⟩
  · have hl2 : ((ks.length : Int) != (ls.length : Int)) = true := by simp; omega
    have hl4 : (ks.length != ls.length) = true := by simp [hl]
    have hl1 : ((ks.length : Int) == (ls.length : Int)) = false := by rw [beq_eq_false_iff_ne]; omega
    have hl3 : (ks.length == ls.length) = false := by rw [beq_eq_false_iff_ne]; omega
    have HL := Lib.hid hl
    clear hl
    go_enter Try.func48, Try.ntmps48
    go_wp2_with fail
    go_ret
    exact ⟨ret_b (eqB_no (fun h => HL.out (by rw [h]))), Below.refl _ _⟩
set_option maxHeartbeats 4000000 in
theorem eqForm_any (x : Fm) : EqForm x := by
  induction x using Fm.ind with
  | h x ih =>
    intro y A3 c3 A4 c4 B3 d3 B4 d4 w hx hy
    have HX := Lib.hid (fun (h1 : x.f0 = y.f0) (h2 : x.f1 = y.f1) (h3 : x.f2 = y.f2) (h4 : x.f3 = y.f3) (h5 : x.f4 = y.f4) => Fm.ext' h1 h2 h3 h4 h5)
    have hb1 := below_new w (.cells #[.int .i64 x.f0, .string x.f1, .int .i64 x.f2, .slice A3 x.f3.length c3, .slice A4 x.f4.length c4] 29)
    have hb2 := below_step hb1 (below_new _ (.cells #[.int .i64 y.f0, .string y.f1, .int .i64 y.f2, .slice B3 y.f3.length d3, .slice B4 y.f4.length d4] 29))
    have HB := Lib.hid hb2
    by_cases e1 : x.f0 = y.f0
    · have t1 : (x.f0 == y.f0) = true := by simpa using e1
      have t1' : (x.f0 != y.f0) = false := by simpa using e1
      have E1 := Lib.hid e1
      clear e1
      by_cases e2 : x.f1 = y.f1
      · have t2 : (x.f1.toList == y.f1.toList) = true := by rw [e2]; simp
        have t2' : (x.f1.toList != y.f1.toList) = false := by rw [e2]; simp
        have E2 := Lib.hid e2
        clear e2
        by_cases e3 : x.f2 = y.f2
        · have t3 : (x.f2 == y.f2) = true := by simpa using e3
          have t3' : (x.f2 != y.f2) = false := by simpa using e3
          have E3 := Lib.hid e3
          clear e3
          have HC := Lib.hid (eqIntS_any x.f3 y.f3 A3 B3 c3 d3 _ (Kd.C_below hx.g3 hb2) hx.l3 (Kd.C_below hy.g3 hb2) hy.l3)
          have HK := Lib.hid (fun W hb => eqFormS_of x.f4 y.f4 ih A4 B4 c4 d4 W (Kd.C_below hx.g4 hb) hx.l4 (Kd.C_below hy.g4 hb) hy.l4)
          clear ih hx hy hb1 hb2
          go_enter Try.func18, Try.ntmps18
          go_wp2_with fail
          refine HC.out.mono ?_
          rintro e w1 ⟨rfl, k1⟩
          have hz := blk_below (blk_below (blk_new w (.cells #[.int .i64 x.f0, .string x.f1, .int .i64 x.f2, .slice A3 x.f3.length c3, .slice A4 x.f4.length c4] 29)) (below_new _ _)) k1
          have hz2 := blk_below (blk_new (w.alloc (.cells #[.int .i64 x.f0, .string x.f1, .int .i64 x.f2, .slice A3 x.f3.length c3, .slice A4 x.f4.length c4] 29)) (.cells #[.int .i64 y.f0, .string y.f1, .int .i64 y.f2, .slice B3 y.f3.length d3, .slice B4 y.f4.length d4] 29)) k1
          rw [show (w.alloc (.cells #[.int .i64 x.f0, .string x.f1, .int .i64 x.f2, .slice A3 x.f3.length c3, .slice A4 x.f4.length c4] 29)).heap.size = w.heap.size + 1 from by simp] at hz2
          obtain ⟨_, _, _, _, q4⟩ := fm_cells hz
          obtain ⟨_, _, _, _, r4⟩ := fm_cells hz2
          have K1 := Lib.hid (below_step HB.out k1)
          clear hz hz2 k1
          by_cases e4 : x.f3 = y.f3
          · have E4 := Lib.hid e4
            rw [decide_eq_true e4]
            clear e4
            go_wp2_with fail
            refine (HK.out _ K1.out).mono ?_
            rintro e w2 ⟨rfl, k2⟩
            cases e5 : eqB x.f4 y.f4 with
            | true =>
              have E5 := Lib.hid (eqB_iff.1 e5)
              clear e5
              go_wp2_with fail
              go_ret
              exact ⟨ret_b (eqB_yes (HX.out E1.out E2.out E3.out E4.out E5.out)), below_step K1.out k2⟩
            | false =>
              have E5 := Lib.hid e5
              clear e5
              go_wp2_with fail
              go_ret
              refine ⟨ret_b (eqB_no (fun h => ?_)), below_step K1.out k2⟩
              have := E5.out
              rw [h, eqB_self] at this
              cases this
          · have E4 := Lib.hid e4
            rw [decide_eq_false e4]
            clear e4
            go_wp2_with fail
            go_ret
            exact ⟨ret_b (eqB_no (fun h => E4.out (by rw [h]))), K1.out⟩
        · have t3 : (x.f2 == y.f2) = false := by simpa using e3
          have t3' : (x.f2 != y.f2) = true := by simpa using e3
          have E3 := Lib.hid e3
          clear e3 ih hx hy hb1 hb2
          go_enter Try.func18, Try.ntmps18
          go_wp2_with fail
          go_ret
          exact ⟨ret_b (eqB_no (fun h => E3.out (by rw [h]))), HB.out⟩
      · have t2 : (x.f1.toList == y.f1.toList) = false := by rw [beq_eq_false_iff_ne]; exact fun h => e2 (toList_inj h)
        have t2' : (x.f1.toList != y.f1.toList) = true := by rw [bne_iff_ne]; exact fun h => e2 (toList_inj h)
        have E2 := Lib.hid e2
        clear e2 ih hx hy hb1 hb2
        go_enter Try.func18, Try.ntmps18
        go_wp2_with fail
        go_ret
        exact ⟨ret_b (eqB_no (fun h => E2.out (by rw [h]))), HB.out⟩
    · have t1 : (x.f0 == y.f0) = false := by simpa using e1
      have t1' : (x.f0 != y.f0) = true := by simpa using e1
      have E1 := Lib.hid e1
      clear e1 ih hx hy hb1 hb2
      go_enter Try.func18, Try.ntmps18
      go_wp2_with fail
      go_ret
      exact ⟨ret_b (eqB_no (fun h => E1.out (by rw [h]))), HB.out⟩
end Go.Proofs.Ytnaefjilcabkoaa
end
section
namespace Go.Proofs.Ytnaefjilcabkoaa
open Go.RowKit Go.Proofs.YtnaefjilcabkoaaW.PrintWords Go.Proofs.YtnaefjilcabkoaaW.PrintLast Go.Proofs.YtnaefjilcabkoaaW.PrintMore
set_option linter.unusedVariables false
set_option linter.unusedSimpArgs false
/-- Only the blocks of S, and new ones, may have changed. -/
structure Mk (S : List Nat) (w w' : World) : Prop where
  b0 : Below 0 w w'
  keep : ∀ b, b < w.heap.size → b ∉ S → w'.heap[b]? = w.heap[b]?
theorem Mk.refl (S : List Nat) (w : World) : Mk S w w := ⟨Below.refl _ _, fun _ _ _ => rfl⟩
theorem Mk.trans {S : List Nat} {a b c : World} (h : Mk S a b) (k : Mk S b c) : Mk S a c :=
  ⟨h.b0.trans k.b0, fun j hj hs => (k.keep j (Nat.lt_of_lt_of_le hj h.b0.size) hs).trans (h.keep j hj hs)⟩
theorem Mk.more {S T : List Nat} {a b : World} (h : Mk S a b) (hs : ∀ j, j ∈ S → j ∈ T) : Mk T a b := ⟨h.b0, fun j hj ht => h.keep j hj (fun q => ht (hs j q))⟩
theorem Mk.ofBelow {S : List Nat} {w w' : World} (h : Below w.heap.size w w') : Mk S w w' := ⟨h.mono (Nat.zero_le _), fun b hb _ => h.block b hb⟩
theorem Mk.set {S : List Nat} (w : World) {g : Nat} (hg : g ∈ S) (i : Nat) (u : Value) : Mk S w (w.setCell ⟨g, i, none⟩ u) :=
  ⟨(Below.refl 0 w).setCell (Nat.zero_le _) u, fun b _ hb => Below.heap_setCell _ _ _ _ (fun h => hb (h ▸ hg))⟩
theorem Mk.below {S : List Nat} {w w' : World} {B : Nat} (h : Mk S w w') (hB : B ≤ w.heap.size) (hs : ∀ b, b ∈ S → B ≤ b) : Below B w w' :=
  ⟨h.b0.os, h.b0.tape, h.b0.output, h.b0.size, fun k hk => h.keep k (Nat.lt_of_lt_of_le hk hB) (fun q => Nat.lt_irrefl _ (Nat.lt_of_lt_of_le hk (hs k q)))⟩
theorem Mk.tree {S fp : List Nat} {w w' : World} {x : Fm} {v3 v4 : Value} (h : Mk S w w') (ht : TrF w x v3 v4 fp) (hs : ∀ b, b ∈ fp → b ∉ S) : TrF w' x v3 v4 fp :=
  ht.move x (fun b hb => h.keep b (ht.lt x b hb) (hs b hb))
/-- The numbers k, k + 1, ..: n of them. -/
def markI (n : Nat) (k : Int) : List Int := (List.range n).map (fun i : Nat => k + (i : Int))
theorem markI_length (n : Nat) (k : Int) : (markI n k).length = n := by simp [markI]
set_option maxHeartbeats 1000000 in
theorem markIntS_any (xs : List Int) (v : Value) (k : Int) (w : World) (h : kI.R 3 w 0 (fun _ => True) v xs) (hk0 : 0 ≤ k) (hk1 : k + xs.length ≤ 1000000000) :
    Calls Try.prog 37 #[v, .int .i64 k] w (fun e w' => e = .returned (.int .i64 (k + xs.length)) ∧ kI.R 3 w' 0 (fun _ => True) v (markI xs.length k) ∧ Mk (obs v) w w') := by
  obtain ⟨A, c, rfl, hcap, hC0⟩ := own_C (Kd.own_of_R h)
  have hmax := hC0.2.1
  have HA := Lib.hid h
  clear h hC0
  go_enter Try.func37, Try.ntmps37
  go_wp2_with fail
  go_loopg [1, 5] xs.length (fun kq v1 v5 w' => ∃ i : Nat, i ≤ xs.length ∧ xs.length - i ≤ kq ∧ v5 = .int .i64 i ∧ v1 = .int .i64 (k + (i : Int)) ∧ Aside0 (kI.R 3 w' 0 (fun _ => True) (.slice A xs.length c) (markI i k ++ xs.drop i)) ∧ Aside0 (Mk (obs (.slice A xs.length c)) w w'))
  case atStart => exact ⟨0, Nat.zero_le _, by omega, rfl, by simp, ⟨by simpa [markI] using HA.out⟩, ⟨Mk.refl _ _⟩⟩
  case round =>
    obtain ⟨i, hi, hg, rfl, rfl, HO, HW⟩ := hrel
    by_cases hlt : i < xs.length
    · have hlen : (markI i k ++ xs.drop i).length = xs.length := by simp [markI]; omega
      obtain ⟨g, cap, e, hg1, _, hx, hf, _, HP⟩ := own_at HO.out i (by omega)
      rw [hlen] at e HP
      have hA : A = some ⟨g, 0, none⟩ := by cases e; rfl
      have hcc : c = cap := by cases e; rfl
      subst hA
      subst hcc
      have HP := Lib.hid (HP (k + (i : Int)))
      have HM := Lib.hid (Mk.set wr (S := obs (.slice (some ⟨g, 0, none⟩) xs.length c)) (g := g) (by simp [obs, Value.ownBlock]) i (.int .i64 (k + (i : Int))))
      clear e
      go_wp2_with fail
      go_roundg (xs.length - (i + 1))
      case measure => omega
      case rel =>
        refine ⟨i + 1, by omega, Nat.le_refl _, by go_num, by go_num, ⟨?_⟩, ⟨HW.out.trans HM.out⟩⟩
        have := HP.out
        rwa [show (markI i k ++ xs.drop i).set i (k + (i : Int)) = markI (i + 1) k ++ xs.drop (i + 1) from ?_] at this
        have e1 : (List.drop i xs).set 0 (k + (i : Int)) = (k + (i : Int)) :: List.drop (i + 1) xs := by rw [List.drop_eq_getElem_cons hlt]; rfl
        rw [List.set_append_right _ _ (by simp [markI]), markI_length, Nat.sub_self, e1]
        simp [markI, List.range_succ]
    · obtain rfl : i = xs.length := by omega
      go_wp2_with fail
      go_ret
      refine ⟨rfl, ?_, HW.out⟩
      have := HO.out
      rwa [List.drop_length, List.append_nil] at this
theorem heldIntS_any (n : Nat) (A : Option Addr) (c : Nat) (k : Int) (w : World) (hr : kI.C w A n (markI n k)) (hc : n ≤ c) (hk0 : 0 ≤ k) (hk1 : k + n ≤ 1000000000) :
    Calls Try.prog 38 #[.slice A n c, .int .i64 k] w (Ret w (.int .i64 (k + n))) := by
  have hmax := hr.2.1
  go_enter Try.func38, Try.ntmps38
  go_wp2_with fail
  go_loopg [1, 5] n (fun kq v1 v5 w' => ∃ i : Nat, i ≤ n ∧ n - i ≤ kq ∧ v5 = .int .i64 i ∧ v1 = .int .i64 (k + (i : Int)) ∧ Aside0 (Below w.heap.size w w'))
  case atStart => exact ⟨0, Nat.zero_le _, by omega, rfl, by simp, ⟨Below.refl _ _⟩⟩
  case round =>
    obtain ⟨i, hi, hg, rfl, rfl, HW⟩ := hrel
    by_cases hlt : i < n
    · obtain ⟨ad, e, hcell⟩ := int_at (Kd.C_below hr HW.out) i (by rw [markI_length]; exact hlt)
      subst e
      rw [show (markI n k)[i]'(by rw [markI_length]; exact hlt) = k + (i : Int) from by simp [markI]] at hcell
      have ht : ((k + (i : Int)) != (k + (i : Int))) = false := by simp
      go_wp2_with fail
      go_roundg (n - (i + 1))
      case measure => omega
      case rel => exact ⟨i + 1, by omega, Nat.le_refl _, by go_num, by go_num, ⟨HW.out⟩⟩
    · obtain rfl : i = n := by omega
      go_wp2_with fail
      go_ret
      exact ⟨rfl, HW.out⟩
def dg (n : Nat) (acc : ByteArray) : ByteArray := if h : n = 0 then acc else dg (n / 10) (⟨#[48 + UInt8.ofNat (n % 10)]⟩ ++ acc)
termination_by n
decreasing_by omega
def mt (k : Int) : ByteArray := if k ≤ 0 then ⟨#[109, 48]⟩ else ⟨#[109]⟩ ++ dg k.toNat ⟨#[]⟩
set_option maxRecDepth 100000 in
set_option maxHeartbeats 1000000 in
theorem markText_any (k : Nat) (w : World) (hk0 : 1 ≤ k) (hk1 : k ≤ 1000000000) :
    Calls Try.prog 65 #[.int .i64 k] w (Ret w (.string (mt k))) := by
  have t0 : decide ((k : Int) ≤ 0) = false := decide_eq_false (by omega)
  have t0' : decide (k = 0) = false := decide_eq_false (by omega)
  go_enter Try.func65, Try.ntmps65
  go_wp2_with fail
  go_loopg [0, 3] k (fun kq v0 v3 w' => ∃ (n : Nat) (acc : ByteArray), acc.size + n ≤ k ∧ n ≤ kq ∧ v0 = .int .i64 n ∧ v3 = .string acc ∧ Aside0 (dg n acc = dg k ⟨#[]⟩) ∧ Aside0 (Below w.heap.size w w'))
  case atStart => exact ⟨k, _, (by have : (ByteArray.mk #[]).size = 0 := rfl; omega), by omega, rfl, rfl, ⟨rfl⟩, ⟨Below.refl _ _⟩⟩
  case round =>
    obtain ⟨n, acc, hn, hg, rfl, rfl, HD, HW⟩ := hrel
    have ha : acc.size ≤ 1000000000 := by omega
    by_cases hz : n = 0
    · have t1 : decide ((n : Int) > 0) = false := decide_eq_false (by omega)
      have t2 : decide (0 < n) = false := decide_eq_false (by omega)
      have HZ := Lib.hid hz
      clear hz
      go_wp2_with fail
      go_ret
      refine ⟨?_, HW.out⟩
      have h1 := HD.out
      rw [HZ.out, dg, dif_pos rfl] at h1
      rw [h1, mt, if_neg (by omega), Int.toNat_natCast]
      rfl
    · have t1 : decide ((n : Int) > 0) = true := decide_eq_true (by omega)
      have t2 : decide (0 < n) = true := decide_eq_true (by omega)
      have hd : (convert 105 9 (.slice (some ⟨wr.heap.size, 0, none⟩) 1 1)).run Try.prog (wr.alloc (.cells #[.int .u8 (48 + (n : Int) % 10)] 5)) = .ok (.string ⟨#[UInt8.ofNat (48 + n % 10)]⟩) (wr.alloc (.cells #[.int .u8 (48 + (n : Int) % 10)] 5)) :=
        run_convert_bytes_back (P := Try.prog) _ 105 9 5 ⟨wr.heap.size, 0, none⟩ 1 [UInt8.ofNat (48 + n % 10)] Try.underlying105 Try.underlying5 Try.underlying9 (by
          intro j hj
          obtain rfl : j = 0 := by simpa using hj
          have h8 : (UInt8.ofNat (48 + n % 10)).toNat = 48 + n % 10 := by rw [UInt8.toNat_ofNat']; omega
          show _ = some (Value.int .u8 ((UInt8.ofNat (48 + n % 10)).toNat : Int))
          rw [h8]
          exact ((blk_cell (blk_new wr (.cells #[.int .u8 (48 + (n : Int) % 10)] 5)) 0).trans (by simp)))
      go_wp2_with fail
      go_roundg (n / 10)
      case measure => omega
      case rel =>
        refine ⟨n / 10, _, ?_, Nat.le_refl _, by go_num, rfl, ⟨?_⟩, ⟨HW.out.alloc HW.out.size _⟩⟩
        · have : (⟨#[48 + UInt8.ofNat (n % 10)]⟩ ++ acc : ByteArray).size = 1 + acc.size := by rw [ByteArray.size_append]; rfl
          omega
        · have h1 := HD.out
          rw [dg, dif_neg hz] at h1
          exact h1
end Go.Proofs.Ytnaefjilcabkoaa
end
section
namespace Go.Proofs.Ytnaefjilcabkoaa
open Go.RowKit Go.Proofs.YtnaefjilcabkoaaW.PrintWords Go.Proofs.YtnaefjilcabkoaaW.PrintLast Go.Proofs.YtnaefjilcabkoaaW.PrintMore
set_option linter.unusedVariables false
set_option linter.unusedSimpArgs false
mutual
def Fm.cnt : Fm → Nat
  | ⟨_, _, _, sc, kids⟩ => sc.length + cntL kids
def cntL : List Fm → Nat
  | [] => 0
  | k :: ks => 3 + k.cnt + cntL ks
end
mutual
def Fm.mark : Fm → Int → Fm
  | ⟨a, b, c, sc, kids⟩, k => ⟨a, b, c, markI sc.length k, markL kids (k + sc.length)⟩
def markL : List Fm → Int → List Fm
  | [], _ => []
  | x :: xs, k => ⟨k, mt (k + 1), k + 2, (x.mark (k + 3)).f3, (x.mark (k + 3)).f4⟩ :: markL xs (k + 3 + x.cnt)
end
theorem Fm.cnt_eq (x : Fm) : x.cnt = x.f3.length + cntL x.f4 := by cases x; rfl
theorem Fm.mark_eq (x : Fm) (k : Int) : x.mark k = ⟨x.f0, x.f1, x.f2, markI x.f3.length k, markL x.f4 (k + x.f3.length)⟩ := by cases x; rfl
/-- The element of a row, marked from k on. -/
def Fm.mark3 (x : Fm) (k : Int) : Fm := ⟨k, mt (k + 1), k + 2, markI x.f3.length (k + 3), markL x.f4 (k + 3 + x.f3.length)⟩
theorem markL_cons (x : Fm) (xs : List Fm) (k : Int) : markL (x :: xs) k = x.mark3 k :: markL xs (k + 3 + x.cnt) := by
  rw [markL, Fm.mark_eq]
  rfl
theorem cntL_cons (x : Fm) (xs : List Fm) : cntL (x :: xs) = 3 + x.cnt + cntL xs := rfl
theorem cntL_append (a b : List Fm) : cntL (a ++ b) = cntL a + cntL b := by
  induction a with
  | nil => simp [cntL]
  | cons x a ih => rw [List.cons_append, cntL_cons, cntL_cons, ih]; omega
theorem markL_append (a b : List Fm) : ∀ k : Int, markL (a ++ b) k = markL a k ++ markL b (k + cntL a) := by
  induction a with
  | nil => intro k; simp [markL, cntL]
  | cons x a ih =>
    intro k
    rw [List.cons_append, markL_cons, markL_cons, ih, cntL_cons, List.cons_append]
    congr 3
    omega
theorem markL_length : ∀ (l : List Fm) (k : Int), (markL l k).length = l.length := by
  intro l
  induction l with
  | nil => intro k; rfl
  | cons x l ih => intro k; rw [markL_cons, List.length_cons, List.length_cons, ih]
theorem cntL_take (l : List Fm) (i : Nat) (h : i < l.length) : cntL (l.take (i + 1)) = cntL (l.take i) + (3 + l[i].cnt) := by
  rw [List.take_succ_eq_append_getElem h, cntL_append, cntL_cons]
  simp [cntL]
theorem markL_take (l : List Fm) (i : Nat) (h : i < l.length) (k : Int) : markL (l.take (i + 1)) k = markL (l.take i) k ++ [l[i].mark3 (k + cntL (l.take i))] := by
  rw [List.take_succ_eq_append_getElem h, markL_append, markL_cons]
  simp [markL]
theorem cntL_take_le (l : List Fm) (i : Nat) : cntL (l.take i) ≤ cntL l := by
  have h := cntL_append (l.take i) (l.drop i)
  rw [List.take_append_drop] at h
  omega
theorem Mk.cell {S : List Nat} {w w' : World} (h : Mk S w w') {g j : Nat} {v : Value} (hg : g ∉ S) (hc : w.cell? ⟨g, j, none⟩ = some v) : w'.cell? ⟨g, j, none⟩ = some v := by
  have hlt := World.block_lt_of_cell? w _ hc
  rw [World.cell?_of_block (w := w) (h.keep g hlt hg)]
  exact hc
theorem Mk.own {S : List Nat} {w w' : World} (h : Mk S w w') {e sz n : Nat} {v : Value} {inner : List Value} (ho : w.ownsRow 0 e sz v n inner) (hs : ∀ b, v.ownBlock = some b → b ∉ S) (hlt : ∀ b, v.ownBlock = some b → b < w.heap.size) : w'.ownsRow 0 e sz v n inner :=
  own_move ho (fun b hb => h.keep b (hlt b hb) (hs b hb))
theorem row_at {w : World} {e g n cap i : Nat} {inner rest : List Value} {a0 a1 a2 a3 a4 : Value} (h : w.ownsRow 0 e 5 (.slice (some ⟨g, 0, none⟩) n cap) n (inner ++ ([a0, a1, a2, a3, a4] ++ rest))) (hl : inner.length = i * 5) :
    (∀ b0, (w.setCell ⟨g, i * 5, none⟩ b0).ownsRow 0 e 5 (.slice (some ⟨g, 0, none⟩) n cap) n (inner ++ ([b0, a1, a2, a3, a4] ++ rest))) ∧
    (∀ b1, (w.setCell ⟨g, i * 5 + 1, none⟩ b1).ownsRow 0 e 5 (.slice (some ⟨g, 0, none⟩) n cap) n (inner ++ ([a0, b1, a2, a3, a4] ++ rest))) ∧
    (∀ b2, (w.setCell ⟨g, i * 5 + 2, none⟩ b2).ownsRow 0 e 5 (.slice (some ⟨g, 0, none⟩) n cap) n (inner ++ ([a0, a1, b2, a3, a4] ++ rest))) := by
  refine ⟨fun b0 => ?_, fun b1 => ?_, fun b2 => ?_⟩
  · have s0 := (World.ownsRow.stored h (i * 5) b0).1
    rwa [show (inner ++ ([a0, a1, a2, a3, a4] ++ rest)).set (i * 5) b0 = inner ++ ([b0, a1, a2, a3, a4] ++ rest) from by rw [← hl]; simp [List.set_append]] at s0
  · have s0 := (World.ownsRow.stored h (i * 5 + 1) b1).1
    rwa [show (inner ++ ([a0, a1, a2, a3, a4] ++ rest)).set (i * 5 + 1) b1 = inner ++ ([a0, b1, a2, a3, a4] ++ rest) from by rw [← hl]; simp [List.set_append]] at s0
  · have s0 := (World.ownsRow.stored h (i * 5 + 2) b2).1
    rwa [show (inner ++ ([a0, a1, a2, a3, a4] ++ rest)).set (i * 5 + 2) b2 = inner ++ ([a0, a1, b2, a3, a4] ++ rest) from by rw [← hl]; simp [List.set_append]] at s0
/-- markFormS on the row v of the forms ks, from k on. -/
def MarkPost (ks : List Fm) (v : Value) (fp : List Nat) (k : Int) (w : World) (e : Ending) (w' : World) : Prop :=
  e = .returned (.int .i64 (k + cntL ks)) ∧ (∃ inner, w'.ownsRow 0 29 5 v ks.length inner ∧ TrL w' (markL ks k) inner fp) ∧ Mk (obs v ++ fp) w w'
def MarkL (ks : List Fm) : Prop := ∀ (v : Value) (inner : List Value) (fp : List Nat) (k : Int) (w : World), w.ownsRow 0 29 5 v ks.length inner → TrL w ks inner fp → (obs v ++ fp).Nodup → 1 ≤ k → k + cntL ks ≤ 1000000000 →
    Calls Try.prog 49 #[v, .int .i64 k] w (MarkPost ks v fp k w)
theorem nd_parts {a b c d e f : List Nat} (h : (a ++ (b ++ ((c ++ (d ++ e)) ++ f))).Nodup) : (∀ x, x ∈ a → x ∉ b ∧ x ∉ c ∧ x ∉ d ++ e ∧ x ∉ f) ∧ (∀ x, x ∈ c → x ∉ a ∧ x ∉ b ∧ x ∉ d ++ e ∧ x ∉ f) ∧ (∀ x, x ∈ d ++ e → x ∉ a ∧ x ∉ b ∧ x ∉ c ∧ x ∉ f) ∧ (d ++ e).Nodup := by
  simp only [List.nodup_append, List.mem_append] at h
  grind
theorem markTextZ (k : Int) (w : World) (hk0 : 1 ≤ k) (hk1 : k ≤ 1000000000) : Calls Try.prog 65 #[.int .i64 k] w (Ret w (.string (mt k))) := by
  obtain ⟨n, rfl⟩ := Int.eq_ofNat_of_zero_le (show 0 ≤ k by omega)
  exact markText_any n w (by omega) (by omega)
set_option maxHeartbeats 4000000 in
set_option maxRecDepth 100000 in
theorem markFormS_of (ks : List Fm) (hks : ∀ x, x ∈ ks → MarkL x.f4) : MarkL ks := by
  intro v inner fp k w ho ht hnd hk0 hk1
  obtain ⟨A, c, rfl, hcap, hC0⟩ := ht.C ho
  have hmax := hC0.2.1
  have HI := Lib.hid (And.intro ho ht)
  have HK := Lib.hid hks
  have HND := Lib.hid hnd
  clear ho ht hks hC0 hnd
  go_enter Try.func49, Try.ntmps49
  go_wp2_with fail
  go_loopg [1, 5] ks.length (fun kq v1 v5 w' => ∃ i : Nat, i ≤ ks.length ∧ ks.length - i ≤ kq ∧ v5 = .int .i64 i ∧ v1 = .int .i64 (k + (cntL (ks.take i) : Int)) ∧ Aside0 (∃ ia ib fa fb, w'.ownsRow 0 29 5 (.slice A ks.length c) ks.length (ia ++ ib) ∧ TrL w' (markL (ks.take i) k) ia fa ∧ TrL w' (ks.drop i) ib fb ∧ fp = fa ++ fb) ∧ Aside0 (Mk (obs (.slice A ks.length c) ++ fp) w w'))
  case atStart => exact ⟨0, Nat.zero_le _, by omega, rfl, by simp [cntL], ⟨[], inner, [], fp, HI.out.1, TrL.nil, HI.out.2, rfl⟩, ⟨Mk.refl _ _⟩⟩
  case round =>
    obtain ⟨i, hi, hg, rfl, rfl, HO, HW⟩ := hrel
    by_cases hlt : i < ks.length
    · obtain ⟨ia, ib, fa, fb, ho, ha, hb, hfp⟩ := HO.out
      rw [List.drop_eq_getElem_cons hlt] at hb
      obtain ⟨v3, v4, rest, fk, fs, rfl, rfl, hkid, hrest⟩ := hb.cons_inv
      obtain ⟨inner4, fk4, rfl, h3, h4, hk4⟩ := hkid.open
      obtain ⟨C3, j3, rfl, hj3, _⟩ := own_C h3
      obtain ⟨C4, j4, rfl, hj4, _⟩ := hk4.C h4
      obtain ⟨g, cap, e, hg0, hglt⟩ := ho.form (by omega)
      have hA : A = some ⟨g, 0, none⟩ := by cases e; rfl
      have hcc : c = cap := by cases e; rfl
      subst hA
      subst hcc
      have hl := ha.len
      rw [markL_length, List.length_take, Nat.min_eq_left hi] at hl
      have hnd := HND.out
      rw [hfp] at hnd
      obtain ⟨n1, n2, n3, n4⟩ := nd_parts hnd
      have hct := cntL_take ks i hlt
      have hcle := cntL_take_le ks (i + 1)
      have hce := Fm.cnt_eq ks[i]
      obtain ⟨⟨q0, q1, q2, q3, q4⟩, hfz, _⟩ := row_put ho hl
      have z0 := hfz (i * 5)
      have z1 := hfz (i * 5 + 1)
      have z2 := hfz (i * 5 + 2)
      have MT := Lib.hid (markTextZ (k + (cntL (ks.take i) : Int) + 1) (wr.setCell ⟨g, i * 5, none⟩ (.int .i64 (k + (cntL (ks.take i) : Int)))) (by omega) (by omega))
      clear e hfz
      go_wp2_with fail
      refine MT.out.mono ?_
      rintro e w2 ⟨rfl, hb2⟩
      have hgS : g ∈ obs (.slice (some ⟨g, 0, none⟩) ks.length c) ++ fp := by simp [obs, Value.ownBlock]
      have ho2 := own_move (w1 := w2) ((row_at ho hl).1 (.int .i64 (k + (cntL (ks.take i) : Int)))) (fun b hb => by
        have : g = b := by simpa [Value.ownBlock] using hb
        subst this
        exact hb2.block g (by simpa using hglt))
      have m2 : Mk [g] wr w2 := (Mk.set wr (by simp) _ _).trans (Mk.ofBelow hb2)
      have ho3 := (row_at ho2 hl).2.1 (.string (mt (k + (cntL (ks.take i) : Int) + 1)))
      have ho4 := (row_at ho3 hl).2.2 (.int .i64 (k + (cntL (ks.take i) : Int) + 1 + 1))
      have m4 : Mk [g] wr ((w2.setCell ⟨g, i * 5 + 1, none⟩ (.string (mt (k + (cntL (ks.take i) : Int) + 1)))).setCell ⟨g, i * 5 + 2, none⟩ (.int .i64 (k + (cntL (ks.take i) : Int) + 1 + 1))) := (m2.trans (Mk.set _ (by simp) _ _)).trans (Mk.set _ (by simp) _ _)
      have hf1 := World.ownsRow.frozenAt ho2 (i * 5 + 1)
      have hf2 := World.ownsRow.frozenAt ho3 (i * 5 + 2)
      obtain ⟨⟨_, r1, r2, r3, r4⟩, _, _⟩ := row_put ho2 hl
      obtain ⟨⟨_, _, s2, s3, s4⟩, _, _⟩ := row_put ho3 hl
      obtain ⟨⟨_, _, _, t3, t4⟩, _, _⟩ := row_put ho4 hl
      clear q0 q1 q2 q3 q4 z0 z1 z2 MT hb2
      have HO4 := Lib.hid ho4
      have M4 := Lib.hid m4
      clear ho ho2 ho3 ho4 m2 m4
      go_wp2_with fail
      have hgm : g ∈ obs (.slice (some ⟨g, 0, none⟩) ks.length c) := by simp [obs, Value.ownBlock]
      have n1g := n1 g hgm
      have hklt := hkid.lt _
      have h3' := M4.out.own h3 (fun b hb => by
          have hb' : b ∈ obs (Value.slice C3 ks[i].f3.length j3) := obs_mem.2 hb
          intro h
          have : b = g := by simpa using h
          subst this
          exact n1g.2.1 hb') (fun b hb => hklt b (List.mem_append_left _ (obs_mem.2 hb)))
      refine (markIntS_any ks[i].f3 (.slice C3 ks[i].f3.length j3) _ _ (Kd.R_of_own h3' (fun _ _ => trivial)) (by omega) (by omega)).mono ?_
      rintro e w5 ⟨rfl, r5, m5⟩
      have m5' : Mk ([g] ++ obs (.slice C3 ks[i].f3.length j3)) wr w5 := (M4.out.more (fun j hj => List.mem_append_left _ hj)).trans (m5.more (fun j hj => List.mem_append_right _ hj))
      have u4 := m5.cell n1g.2.1 t4
      have hdis : ∀ b, b ∈ obs (Value.slice C4 ks[i].f4.length j4) ++ fk4 → b ∉ [g] ++ obs (.slice C3 ks[i].f3.length j3) := by
        intro b hb h
        have q := n3 b hb
        rcases List.mem_append.1 h with h | h
        · have : b = g := by simpa using h
          subst this
          exact q.1 hgm
        · exact q.2.2.1 h
      have h4' := m5'.own h4 (fun b hb => hdis b (List.mem_append_left _ (obs_mem.2 hb))) (fun b hb => hklt b (List.mem_append_right _ (List.mem_append_left _ (obs_mem.2 hb))))
      have hk4' := hk4.move _ (fun b hb => m5'.keep b (hklt b (List.mem_append_right _ (List.mem_append_right _ hb))) (hdis b (List.mem_append_right _ hb)))
      have MK := Lib.hid (HK.out ks[i] (List.getElem_mem hlt) _ _ _ (k + (cntL (ks.take i) : Int) + 1 + 1 + 1 + ks[i].f3.length) w5 h4' hk4' n4 (by omega) (by omega))
      clear r1 r2 r3 r4 s2 s3 s4 t3 t4 hf1 hf2
      go_wp2_with fail
      refine MK.out.mono ?_
      rintro e w6 ⟨rfl, ⟨inner', h6, t6⟩, m6⟩
      have mA : Mk (([g] ++ obs (.slice C3 ks[i].f3.length j3)) ++ (obs (.slice C4 ks[i].f4.length j4) ++ fk4)) wr w6 := (m5'.more (fun j hj => List.mem_append_left _ hj)).trans (m6.more (fun j hj => List.mem_append_right _ hj))
      have hgo : ∀ b, (Value.slice (some ⟨g, 0, none⟩) ks.length c).ownBlock = some b → b = g := fun b hb => by
        have : g = b := by simpa [Value.ownBlock] using hb
        exact this.symm
      have hsz5 : wr.heap.size ≤ w5.heap.size := m5'.b0.size
      have ho6 := m6.own (m5.own HO4.out (fun b hb => by rw [hgo b hb]; exact n1g.2.1) (fun b hb => by rw [hgo b hb]; exact Nat.lt_of_lt_of_le hglt M4.out.b0.size)) (fun b hb => by rw [hgo b hb]; exact n1g.2.2.1) (fun b hb => by rw [hgo b hb]; omega)
      have hd3 : ∀ b, b ∈ obs (Value.slice C3 ks[i].f3.length j3) → b ∉ obs (Value.slice C4 ks[i].f4.length j4) ++ fk4 := fun b hb => (n2 b hb).2.2.1
      have o5 := Kd.own_of_R r5
      rw [markI_length] at o5
      have o6 := m6.own o5 (fun b hb => hd3 b (obs_mem.2 hb)) (fun b hb => Nat.lt_of_lt_of_le (hklt b (List.mem_append_left _ (obs_mem.2 hb))) hsz5)
      have hfar : ∀ b, (b ∈ fa ∨ b ∈ fs) → b ∉ ([g] ++ obs (.slice C3 ks[i].f3.length j3)) ++ (obs (.slice C4 ks[i].f4.length j4) ++ fk4) := by
        intro b hb h
        rcases List.mem_append.1 h with h | h
        · rcases List.mem_append.1 h with h | h
          · have : b = g := by simpa using h
            subst this
            rcases hb with hb | hb
            · exact n1g.1 hb
            · exact n1g.2.2.2 hb
          · have q := n2 b h
            rcases hb with hb | hb
            · exact q.2.1 hb
            · exact q.2.2.2 hb
        · have q := n3 b h
          rcases hb with hb | hb
          · exact q.2.1 hb
          · exact q.2.2.2 hb
      have ha6 := ha.move _ (fun b hb => mA.keep b (ha.lt _ b hb) (hfar b (.inl hb)))
      have hr6 := hrest.move _ (fun b hb => mA.keep b (hrest.lt _ b hb) (hfar b (.inr hb)))
      have hK3 : k + (cntL (ks.take i) : Int) + 1 + 1 + 1 = k + (cntL (ks.take i) : Int) + 3 := by omega
      rw [hK3] at o6 t6
      have hkid6 : TrF w6 (ks[i].mark3 (k + (cntL (ks.take i) : Int))) (.slice C3 ks[i].f3.length j3) (.slice C4 ks[i].f4.length j4) (obs (.slice C3 ks[i].f3.length j3) ++ (obs (.slice C4 ks[i].f4.length j4) ++ fk4)) :=
        TrF.mk (ks[i].mark3 (k + (cntL (ks.take i) : Int))) _ _ inner' fk4 (by show w6.ownsRow 0 3 1 _ (markI ks[i].f3.length _).length _; rw [markI_length]; exact o6) (by show w6.ownsRow 0 29 5 _ (markL ks[i].f4 _).length _; rw [markL_length]; exact h6) t6
      have HF : Hid (∃ ia ib fa fb, w6.ownsRow 0 29 5 (.slice (some ⟨g, 0, none⟩) ks.length c) ks.length (ia ++ ib) ∧ TrL w6 (markL (ks.take (i + 1)) k) ia fa ∧ TrL w6 (ks.drop (i + 1)) ib fb ∧ fp = fa ++ fb) := by
        refine ⟨ia ++ [.int .i64 (k + (cntL (ks.take i) : Int)), .string (mt (k + (cntL (ks.take i) : Int) + 1)), .int .i64 (k + (cntL (ks.take i) : Int) + 2), .slice C3 ks[i].f3.length j3, .slice C4 ks[i].f4.length j4], rest, fa ++ (obs (.slice C3 ks[i].f3.length j3) ++ (obs (.slice C4 ks[i].f4.length j4) ++ fk4)), fs, ?_, ?_, hr6, ?_⟩
        · rw [List.append_assoc]
          have := ho6
          rwa [show k + (cntL (ks.take i) : Int) + 1 + 1 = k + (cntL (ks.take i) : Int) + 2 from by omega] at this
        · rw [markL_take ks i hlt]
          exact ha6.append (TrL.one hkid6)
        · rw [hfp]
          simp only [List.append_assoc]
      have HM : Hid (Mk (obs (.slice (some ⟨g, 0, none⟩) ks.length c) ++ fp) w w6) := HW.out.trans (mA.more (fun j hj => by
        rw [hfp]
        simp only [List.mem_append] at hj ⊢
        rcases hj with (h | h) | h
        · left; have : j = g := by simpa using h
          rw [this]; exact hgm
        · right; right; left; left; exact h
        · right; right; left; right; exact h))
      have HC := Lib.hid (show cntL (ks.take (i + 1)) = cntL (ks.take i) + (3 + (ks[i].f3.length + cntL ks[i].f4)) from by rw [hct, hce])
      clear n1 n2 n3 n4 n1g hklt h3 h4 h3' h4' hk4 hk4' m5 m5' m6 mA ho6 hd3 o5 o6 hfar ha6 hr6 hkid6 h6 t6 r5 u4 hdis ha hrest hkid hnd hfp hl hgS MK HO4 M4 HO hb hsz5 hgo
      go_wp2_with fail
      go_roundg (ks.length - (i + 1))
      case measure => omega
      case rel =>
        have hc := HC.out
        exact ⟨i + 1, by omega, Nat.le_refl _, by go_num, by rw [hc]; go_num, ⟨HF.out⟩, ⟨HM.out⟩⟩
    · obtain rfl : i = ks.length := by omega
      have HF : Hid (∃ inner, wr.ownsRow 0 29 5 (.slice A ks.length c) ks.length inner ∧ TrL wr (markL ks k) inner fp) := by
        obtain ⟨ia, ib, fa, fb, ho, ha, hb, hfp⟩ := HO.out
        rw [List.drop_length] at hb
        obtain ⟨rfl, rfl⟩ := hb.nil_inv
        rw [List.take_length] at ha
        exact ⟨ia, by simpa using ho, by rw [hfp, List.append_nil]; exact ha⟩
      have HT : Hid (ks.take ks.length = ks) := List.take_length
      clear HO
      go_wp2_with fail
      go_ret
      exact ⟨ret_i (by rw [HT.out]), HF.out, HW.out⟩
theorem markL_kids (x : Fm) : MarkL x.f4 := by
  induction x using Fm.ind with
  | h x ih => exact markFormS_of x.f4 ih
theorem markFormS_any (ks : List Fm) : MarkL ks := markFormS_of ks (fun x _ => markL_kids x)
/-- markForm on a form in own memory. -/
def MarkFPost (x : Fm) (v3 v4 : Value) (fp : List Nat) (k : Int) (w : World) (e : Ending) (w' : World) : Prop :=
  e = .returned (.int .i64 (k + x.cnt)) ∧ TrF w' (x.mark k) v3 v4 fp ∧ Mk fp w w'
set_option maxHeartbeats 2000000 in
theorem markForm_any (x : Fm) (v3 v4 : Value) (fp : List Nat) (k : Int) (w : World) (ht : TrF w x v3 v4 fp) (hnd : fp.Nodup) (hk0 : 1 ≤ k) (hk1 : k + x.cnt ≤ 1000000000) :
    Calls Try.prog 19 #[.agg #[.int .i64 x.f0, .string x.f1, .int .i64 x.f2, v3, v4], .int .i64 k] w (MarkFPost x v3 v4 fp k w) := by
  obtain ⟨inner4, fk4, rfl, h3, h4, hk4⟩ := ht.open
  have hlt := ht.lt _
  obtain ⟨C3, j3, rfl, hj3, _⟩ := own_C h3
  obtain ⟨C4, j4, rfl, hj4, _⟩ := hk4.C h4
  have hce := Fm.cnt_eq x
  have hb1 := below_new w (.cells #[.int .i64 x.f0, .string x.f1, .int .i64 x.f2, .slice C3 x.f3.length j3, .slice C4 x.f4.length j4] 29)
  have mn : Mk (obs (.slice C3 x.f3.length j3)) w _ := Mk.ofBelow hb1
  have h3' := own_move (w1 := w.alloc (.cells #[.int .i64 x.f0, .string x.f1, .int .i64 x.f2, .slice C3 x.f3.length j3, .slice C4 x.f4.length j4] 29)) h3 (fun b hb => hb1.block b (hlt b (List.mem_append_left _ (obs_mem.2 hb))))
  have MI := Lib.hid (markIntS_any x.f3 (.slice C3 x.f3.length j3) k _ (Kd.R_of_own h3' (fun _ _ => trivial)) (by omega) (by omega))
  obtain ⟨p0, p1, p2, p3, p4⟩ := fm_cells (blk_new w (.cells #[.int .i64 x.f0, .string x.f1, .int .i64 x.f2, .slice C3 x.f3.length j3, .slice C4 x.f4.length j4] 29))
  have hg3 : w.heap.size ∉ obs (Value.slice C3 x.f3.length j3) := fun h => by
    have := hlt _ (List.mem_append_left _ h)
    omega
  have hnd2 := List.nodup_append.1 hnd
  have MN := Lib.hid mn
  go_enter Try.func19, Try.ntmps19
  go_wp2_with fail
  refine MI.out.mono ?_
  rintro e w5 ⟨rfl, r5, m5⟩
  have u4 := m5.cell hg3 p4
  have m5' := MN.out.trans m5
  have hd : ∀ b, b ∈ obs (Value.slice C4 x.f4.length j4) ++ fk4 → b ∉ obs (Value.slice C3 x.f3.length j3) := fun b hb h => hnd2.2.2 b h b hb rfl
  have h4' := m5'.own h4 (fun b hb => hd b (List.mem_append_left _ (obs_mem.2 hb))) (fun b hb => hlt b (List.mem_append_right _ (List.mem_append_left _ (obs_mem.2 hb))))
  have hk4' := hk4.move _ (fun b hb => m5'.keep b (hlt b (List.mem_append_right _ (List.mem_append_right _ hb))) (hd b (List.mem_append_right _ hb)))
  have MK := Lib.hid (markFormS_any x.f4 _ _ _ (k + x.f3.length) w5 h4' hk4' hnd2.2.1 (by omega) (by omega))
  clear p0 p1 p2 p3 p4 MI
  go_wp2_with fail
  refine MK.out.mono ?_
  rintro e w6 ⟨rfl, ⟨inner', h6, t6⟩, m6⟩
  have o5 := Kd.own_of_R r5
  rw [markI_length] at o5
  have o6 := m6.own o5 (fun b hb h => hd b h (obs_mem.2 hb)) (fun b hb => Nat.lt_of_lt_of_le (hlt b (List.mem_append_left _ (obs_mem.2 hb))) m5'.b0.size)
  have HT : Hid (TrF w6 (x.mark k) (.slice C3 x.f3.length j3) (.slice C4 x.f4.length j4) (obs (.slice C3 x.f3.length j3) ++ (obs (.slice C4 x.f4.length j4) ++ fk4))) := by
    rw [Fm.mark_eq]
    exact TrF.mk _ _ _ inner' fk4 (by show w6.ownsRow 0 3 1 _ (markI x.f3.length _).length _; rw [markI_length]; exact o6) (by show w6.ownsRow 0 29 5 _ (markL x.f4 _).length _; rw [markL_length]; exact h6) t6
  have HM : Hid (Mk (obs (.slice C3 x.f3.length j3) ++ (obs (.slice C4 x.f4.length j4) ++ fk4)) w w6) := (m5'.more (fun j hj => List.mem_append_left _ hj)).trans (m6.more (fun j hj => List.mem_append_right _ hj))
  have HC := Lib.hid hce
  clear h3 h4 hk4 hlt h3' h4' hk4' m5 m5' m6 o5 o6 h6 t6 r5 u4 hd hg3 hnd hnd2 ht MK mn MN hb1 hce
  go_wp2_with fail
  go_ret
  refine ⟨ret_i ?_, HT.out, HM.out⟩
  rw [HC.out]
  omega
end Go.Proofs.Ytnaefjilcabkoaa
end
section
namespace Go.Proofs.Ytnaefjilcabkoaa
open Go.RowKit Go.Proofs.YtnaefjilcabkoaaW.PrintWords Go.Proofs.YtnaefjilcabkoaaW.PrintLast Go.Proofs.YtnaefjilcabkoaaW.PrintMore
set_option linter.unusedVariables false
set_option linter.unusedSimpArgs false
theorem markL_get : ∀ (l : List Fm) (k : Int) (i : Nat) (h : i < l.length), (markL l k)[i]'(by rw [markL_length]; exact h) = l[i].mark3 (k + cntL (l.take i)) := by
  intro l
  induction l with
  | nil => intro k i h; cases h
  | cons x l ih =>
    intro k i h
    cases i with
    | zero => simp [markL_cons, cntL]
    | succ i =>
      simp only [markL_cons, List.getElem_cons_succ, List.take_succ_cons, cntL_cons]
      rw [ih (k + 3 + x.cnt) i (by simpa using h)]
      congr 1
      omega
def HeldL (ks : List Fm) : Prop := ∀ (A : Option Addr) (c : Nat) (k : Int) (w : World), kF.C w A ks.length (markL ks k) → ks.length ≤ c → 1 ≤ k → k + cntL ks ≤ 1000000000 →
    Calls Try.prog 60 #[.slice A ks.length c, .int .i64 k] w (Ret w (.int .i64 (k + cntL ks)))
set_option maxHeartbeats 4000000 in
set_option maxRecDepth 100000 in
theorem heldFormS_of (ks : List Fm) (hks : ∀ x, x ∈ ks → HeldL x.f4) : HeldL ks := by
  intro A c k w hr hc hk0 hk1
  have hmax := hr.2.1
  have HK := Lib.hid hks
  clear hks
  go_enter Try.func60, Try.ntmps60
  go_wp2_with fail
  go_loopg [1, 5] ks.length (fun kq v1 v5 w' => ∃ i : Nat, i ≤ ks.length ∧ ks.length - i ≤ kq ∧ v5 = .int .i64 i ∧ v1 = .int .i64 (k + (cntL (ks.take i) : Int)) ∧ Aside0 (Below w.heap.size w w'))
  case atStart => exact ⟨0, Nat.zero_le _, by omega, rfl, by simp [cntL], ⟨Below.refl _ _⟩⟩
  case round =>
    obtain ⟨i, hi, hg, rfl, rfl, HW⟩ := hrel
    by_cases hlt : i < ks.length
    · obtain ⟨ad, G3, m3, G4, m4, e, g0, g1, g2, g3, g4, hk⟩ := kid_at (Kd.C_below hr HW.out) i (by rw [markL_length]; exact hlt)
      subst e
      rw [markL_get ks k i hlt] at g0 g1 g2 g3 g4 hk
      have hct := cntL_take ks i hlt
      have hcle := cntL_take_le ks (i + 1)
      have hce := Fm.cnt_eq ks[i]
      generalize hK : k + (cntL (ks.take i) : Int) = K at g0 g1 g2 g3 g4 hk
      simp only [Fm.mark3] at g0 g1 g2
      have g3' : wr.cell? ⟨(ad.add (i * 5)).block, (ad.add (i * 5)).off + 3, none⟩ = some (.slice G3 ks[i].f3.length m3) := by rw [g3]; simp [Fm.mark3, markI_length]
      have g4' : wr.cell? ⟨(ad.add (i * 5)).block, (ad.add (i * 5)).off + 4, none⟩ = some (.slice G4 ks[i].f4.length m4) := by rw [g4]; simp [Fm.mark3, markL_length]
      have j0 : ((K : Int) != K) = false := by simp
      have p1 : (0 : Int) ≤ (i : Int) := by omega
      have p2 : (i : Int) < (ks.length : Int) := by omega
      have n0 : ((mt (K + 1)).toList != (mt (K + 1)).toList) = false := by simp
      have k3 : kI.C wr G3 ks[i].f3.length (markI ks[i].f3.length (K + 1 + 1 + 1)) := by
        have h := hk.g3
        simp only [Fm.mark3, markI_length] at h
        rwa [show K + 1 + 1 + 1 = K + 3 from by omega]
      have k4 : kF.C wr G4 ks[i].f4.length (markL ks[i].f4 (K + 1 + 1 + 1 + ks[i].f3.length)) := by
        have h := hk.g4
        simp only [Fm.mark3, markL_length] at h
        rwa [show K + 1 + 1 + 1 + (ks[i].f3.length : Int) = K + 3 + ks[i].f3.length from by omega]
      have l3 : ks[i].f3.length ≤ m3 := by have h := hk.l3; simpa [Fm.mark3, markI_length] using h
      have l4 : ks[i].f4.length ≤ m4 := by have h := hk.l4; simpa [Fm.mark3, markL_length] using h
      have MT := Lib.hid (fun W => markTextZ (K + 1) W (by omega) (by omega))
      have HI := Lib.hid (fun W hb => heldIntS_any ks[i].f3.length G3 m3 (K + 1 + 1 + 1) W (Kd.C_below k3 hb) l3 (by omega) (by omega))
      have HL := Lib.hid (fun W hb => HK.out ks[i] (List.getElem_mem hlt) G4 m4 (K + 1 + 1 + 1 + ks[i].f3.length) W (Kd.C_below k4 hb) l4 (by omega) (by omega))
      have t1 : decide (K + 1 + 1 + 1 + (ks[i].f3.length : Int) < 0) = false := decide_eq_false (by omega)
      have t2 : decide (K + 1 + 1 + 1 + (ks[i].f3.length : Int) + (cntL ks[i].f4 : Int) < 0) = false := decide_eq_false (by omega)
      have HC := Lib.hid (show cntL (ks.take (i + 1)) = cntL (ks.take i) + (3 + (ks[i].f3.length + cntL ks[i].f4)) from by rw [hct, hce])
      have HKK := Lib.hid hK
      have b1 : 1 ≤ K := by omega
      have b2 : K + 3 + ks[i].f3.length + cntL ks[i].f4 ≤ 1000000000 := by omega
      clear g3 g4 hk k3 k4 l3 l4 hct hce hcle hK
      go_wp2_with fail
      go_region_held3 (fun w' => w'.cell? ⟨(ad.add (i * 5)).block, (ad.add (i * 5)).off + 1, none⟩ = some (.string (mt (K + 1)))) (first | go_keep | exact ck hb1 g1) ((go_at_call 65; refine (MT.out _).mono ?_; rintro e w1 ⟨rfl, hb1⟩))
      have q2 := ck hb1 g2
      have q3 := ck hb1 g3'
      have q4 := ck hb1 g4'
      have B1 := Lib.hid (below_step (Below.refl _ _).drew hb1)
      clear hb1
      go_wp2_with fail
      refine (HI.out _ B1.out).mono ?_
      rintro e w2 ⟨rfl, hb2⟩
      have r4 := ck0 hb2 q4
      have B2 := Lib.hid (below_step B1.out hb2)
      clear hb2
      go_wp2_with fail
      refine (HL.out _ B2.out).mono ?_
      rintro e w3 ⟨rfl, hb3⟩
      have B3 := Lib.hid (below_step HW.out (below_step B2.out hb3))
      clear hb3
      go_wp2_with fail
      go_roundg (ks.length - (i + 1))
      case measure => omega
      case rel =>
        have hc := HC.out
        have hk := HKK.out
        exact ⟨i + 1, by omega, Nat.le_refl _, by go_num, by rw [hc, ← hk]; go_num, ⟨B3.out⟩⟩
    · obtain rfl : i = ks.length := by omega
      have HT : Hid (ks.take ks.length = ks) := List.take_length
      go_wp2_with fail
      go_ret
      exact ⟨ret_i (by rw [HT.out]), HW.out⟩
theorem heldL_kids (x : Fm) : HeldL x.f4 := by
  induction x using Fm.ind with
  | h x ih => exact heldFormS_of x.f4 ih
theorem heldFormS_any (ks : List Fm) : HeldL ks := heldFormS_of ks (fun x _ => heldL_kids x)
set_option maxHeartbeats 2000000 in
theorem heldForm_any (x : Fm) (A3 : Option Addr) (c3 : Nat) (A4 : Option Addr) (c4 : Nat) (k : Int) (w : World) (hin : FmIn w (x.mark k) A3 c3 A4 c4) (hk0 : 1 ≤ k) (hk1 : k + x.cnt ≤ 1000000000) :
    Calls Try.prog 20 #[.agg #[.int .i64 x.f0, .string x.f1, .int .i64 x.f2, .slice A3 x.f3.length c3, .slice A4 x.f4.length c4], .int .i64 k] w (Ret w (.int .i64 (k + x.cnt))) := by
  rw [Fm.mark_eq] at hin
  have hce := Fm.cnt_eq x
  have k3 : kI.C w A3 x.f3.length (markI x.f3.length k) := by have h := hin.g3; simpa only [markI_length] using h
  have k4 : kF.C w A4 x.f4.length (markL x.f4 (k + x.f3.length)) := by have h := hin.g4; simpa only [markL_length] using h
  have l3 : x.f3.length ≤ c3 := by have h := hin.l3; simpa only [markI_length] using h
  have l4 : x.f4.length ≤ c4 := by have h := hin.l4; simpa only [markL_length] using h
  have HI := Lib.hid (fun W hb => heldIntS_any x.f3.length A3 c3 k W (Kd.C_below k3 hb) l3 (by omega) (by omega))
  have HL := Lib.hid (fun W hb => heldFormS_any x.f4 A4 c4 (k + x.f3.length) W (Kd.C_below k4 hb) l4 (by omega) (by omega))
  have t1 : decide (k + (x.f3.length : Int) < 0) = false := decide_eq_false (by omega)
  have t2 : decide (k + (x.f3.length : Int) + (cntL x.f4 : Int) < 0) = false := decide_eq_false (by omega)
  have HC := Lib.hid hce
  clear hin k3 k4 l3 l4 hce
  go_enter Try.func20, Try.ntmps20
  go_wp2_with fail
  refine (HI.out _ (below_new _ _)).mono ?_
  rintro e w1 ⟨rfl, hb1⟩
  obtain ⟨z1, b1⟩ := one_new hb1
  obtain ⟨p0, p1, p2, p3, p4⟩ := fm_cells z1
  have B1 := Lib.hid b1
  clear hb1 b1 z1
  go_wp2_with fail
  refine (HL.out _ B1.out).mono ?_
  rintro e w2 ⟨rfl, hb2⟩
  have B2 := Lib.hid (below_step B1.out hb2)
  clear hb2
  go_wp2_with fail
  go_ret
  refine ⟨ret_i ?_, B2.out⟩
  rw [HC.out]
  omega
end Go.Proofs.Ytnaefjilcabkoaa
end
section
namespace Go.Proofs.Ytnaefjilcabkoaa
open Go.RowKit Go.Proofs.YtnaefjilcabkoaaW.PrintWords Go.Proofs.YtnaefjilcabkoaaW.PrintLast Go.Proofs.YtnaefjilcabkoaaW.PrintMore
set_option linter.unusedVariables false
set_option linter.unusedSimpArgs false
theorem keepTen {w1 w2 : World} (hb : Below w1.heap.size w1 w2) {a0 a1 a2 a3 a4 a5 a6 a7 a8 a9 : Addr} {v0 v1 v2 v3 v4 v5 v6 v7 v8 v9 : Value} (h : w1.cell? a0 = some v0 ∧ w1.cell? a1 = some v1 ∧ w1.cell? a2 = some v2 ∧ w1.cell? a3 = some v3 ∧ w1.cell? a4 = some v4 ∧ w1.cell? a5 = some v5 ∧ w1.cell? a6 = some v6 ∧ w1.cell? a7 = some v7 ∧ w1.cell? a8 = some v8 ∧ w1.cell? a9 = some v9) :
    w2.cell? a0 = some v0 ∧ w2.cell? a1 = some v1 ∧ w2.cell? a2 = some v2 ∧ w2.cell? a3 = some v3 ∧ w2.cell? a4 = some v4 ∧ w2.cell? a5 = some v5 ∧ w2.cell? a6 = some v6 ∧ w2.cell? a7 = some v7 ∧ w2.cell? a8 = some v8 ∧ w2.cell? a9 = some v9 :=
  let ⟨h0, h1, h2, h3, h4, h5, h6, h7, h8, h9⟩ := h
  ⟨ck0 hb h0, ck0 hb h1, ck0 hb h2, ck0 hb h3, ck0 hb h4, ck0 hb h5, ck0 hb h6, ck0 hb h7, ck0 hb h8, ck0 hb h9⟩
theorem cntL_tot (l : List Fm) (h : ∀ k, k ∈ l → k.cnt ≤ 3 * k.tot) : cntL l ≤ 3 * totL l := by
  induction l with
  | nil => simp [cntL]
  | cons k ks ih =>
    have h1 := h k List.mem_cons_self
    have h2 := ih (fun y hy => h y (List.mem_cons_of_mem _ hy))
    rw [cntL_cons]
    show _ ≤ 3 * (1 + k.tot + totL ks)
    omega
theorem Fm.cnt_tot (x : Fm) : x.cnt ≤ 3 * x.tot := by
  induction x using Fm.ind with
  | h x ih =>
    have h1 := cntL_tot x.f4 ih
    have h2 := x.cnt_eq
    have h3 := x.tot_eq
    omega
theorem Mk.blk {S : List Nat} {w w' : World} {g : Nat} {O : Obj} (h : Mk S w w') (hg : w.heap[g]? = some O) (hs : g ∉ S) : w'.heap[g]? = some O := by
  rw [h.keep g (blk_lt hg) hs]; exact hg
/-- A form in the blocks fp, which lie from lo on and ahead of hi. -/
structure Own (lo hi : Nat) (w : World) (x : Fm) (v3 v4 : Value) (fp : List Nat) : Prop where
  tree : TrF w x v3 v4 fp
  nd : fp.Nodup
  lo_ : ∀ b, b ∈ fp → lo ≤ b
  hi_ : ∀ b, b ∈ fp → b < hi
  sz : hi ≤ w.heap.size
theorem NewF.own {lo : Nat} {w : World} {x : Fm} {v3 v4 : Value} (h : NewF lo w x v3 v4) : ∃ A3 c3 A4 c4 fp, v3 = .slice A3 x.f3.length c3 ∧ v4 = .slice A4 x.f4.length c4 ∧ Own lo w.heap.size w x (.slice A3 x.f3.length c3) (.slice A4 x.f4.length c4) fp := by
  obtain ⟨fp, ht, hn, hg⟩ := h
  obtain ⟨A3, c3, A4, c4, rfl, rfl, _⟩ := ht.In
  exact ⟨A3, c3, A4, c4, fp, rfl, rfl, ht, hn, hg, ht.lt _, Nat.le_refl _⟩
theorem Own.later {lo hi : Nat} {w W : World} {x : Fm} {v3 v4 : Value} {fp : List Nat} (h : Own lo hi w x v3 v4 fp) (b : Below w.heap.size w W) : Own lo hi W x v3 v4 fp :=
  ⟨h.tree.later b, h.nd, h.lo_, h.hi_, Nat.le_trans h.sz b.size⟩
theorem Own.now {lo hi : Nat} {w : World} {x : Fm} {A3 : Option Addr} {c3 : Nat} {A4 : Option Addr} {c4 : Nat} {fp : List Nat} (h : Own lo hi w x (.slice A3 x.f3.length c3) (.slice A4 x.f4.length c4) fp) : FmIn w x A3 c3 A4 c4 := by
  obtain ⟨B3, d3, B4, d4, e1, e2, hin⟩ := h.tree.In
  injection e1 with a1 _ a2
  injection e2 with a3 _ a4
  subst a1 a2 a3 a4
  exact hin
/-- The blocks of S, from lo on and ahead of hi, and new ones may have changed. -/
structure Mrk (lo hi : Nat) (w w' : World) : Prop where
  ex : ∃ S, Mk S w w' ∧ ∀ b, b ∈ S → lo ≤ b ∧ b < hi
theorem Mrk.blk {lo hi : Nat} {w w' : World} {g : Nat} {O : Obj} (h : Mrk lo hi w w') (hg : w.heap[g]? = some O) (hs : g < lo ∨ hi ≤ g) : w'.heap[g]? = some O := by
  obtain ⟨S, hm, hS⟩ := h.ex
  exact hm.blk hg (fun q => by have := hS g q; omega)
theorem Mrk.below {lo hi B : Nat} {w w' : World} (h : Mrk lo hi w w') (hB : B ≤ w.heap.size) (hl : B ≤ lo) : Below B w w' := by
  obtain ⟨S, hm, hS⟩ := h.ex
  exact hm.below hB (fun b hb => Nat.le_trans hl (hS b hb).1)
theorem Mrk.own {lo hi lo2 hi2 : Nat} {w w' : World} {x : Fm} {v3 v4 : Value} {fp : List Nat} (h : Mrk lo hi w w') (ho : Own lo2 hi2 w x v3 v4 fp) (hd : hi ≤ lo2 ∨ hi2 ≤ lo) : Own lo2 hi2 w' x v3 v4 fp := by
  obtain ⟨S, hm, hS⟩ := h.ex
  exact ⟨hm.tree ho.tree (fun b hb q => by have := hS b q; have := ho.lo_ b hb; have := ho.hi_ b hb; omega), ho.nd, ho.lo_, ho.hi_, Nat.le_trans ho.sz hm.b0.size⟩
theorem Mrk.size {lo hi : Nat} {w w' : World} (h : Mrk lo hi w w') : w.heap.size ≤ w'.heap.size := by
  obtain ⟨S, hm, hS⟩ := h.ex
  exact hm.b0.size
/-- What is returned: a form in new blocks. -/
def GetO1 (w : World) (x : Fm) (e : Ending) (w' : World) : Prop := ∃ A3 c3 A4 c4 fp, e = .returned (.agg #[.int .i64 x.f0, .string x.f1, .int .i64 x.f2, .slice A3 x.f3.length c3, .slice A4 x.f4.length c4]) ∧ Own w.heap.size w'.heap.size w' x (.slice A3 x.f3.length c3) (.slice A4 x.f4.length c4) fp ∧ Below w.heap.size w w'
theorem RetF.getO1 {w : World} {x : Fm} {e : Ending} {w' : World} (h : RetF w x e w') : GetO1 w x e w' := by
  obtain ⟨v3, v4, rfl, hn, hb⟩ := h
  obtain ⟨A3, c3, A4, c4, fp, rfl, rfl, ho⟩ := NewF.own hn
  exact ⟨A3, c3, A4, c4, fp, rfl, ho, hb⟩
theorem toFormO (x : Fm) (A3 : Option Addr) (c3 : Nat) (A4 : Option Addr) (c4 : Nat) (w : World) (hin : FmIn w x A3 c3 A4 c4) (ht : x.tot ≤ 1048576) :
    Calls Try.prog 16 #[.agg #[.int .i64 x.f0, .string x.f1, .int .i64 x.f2, .slice A3 x.f3.length c3, .slice A4 x.f4.length c4]] w (GetO1 w x) :=
  (toForm_any x A3 c3 A4 c4 w hin ht).mono (fun e w' h => h.getO1)
theorem markForm_own {lo hi : Nat} {w : World} {x : Fm} {v3 v4 : Value} {fp : List Nat} (k : Int) (h : Own lo hi w x v3 v4 fp) (hk0 : 1 ≤ k) (hk1 : k + 3 * x.tot ≤ 1000000000) :
    Calls Try.prog 19 #[.agg #[.int .i64 x.f0, .string x.f1, .int .i64 x.f2, v3, v4], .int .i64 k] w (fun e w' => e = .returned (.int .i64 (k + x.cnt)) ∧ Own lo hi w' (x.mark k) v3 v4 fp ∧ Mrk lo hi w w') := by
  have hc := x.cnt_tot
  refine (markForm_any x v3 v4 fp k w h.tree h.nd hk0 (by omega)).mono ?_
  rintro e w' ⟨rfl, ht, hm⟩
  exact ⟨rfl, ⟨ht, h.nd, h.lo_, h.hi_, Nat.le_trans h.sz hm.b0.size⟩, ⟨fp, hm, fun b hb => ⟨h.lo_ b hb, h.hi_ b hb⟩⟩⟩
theorem heldForm_own {lo hi : Nat} {w : World} {x : Fm} {A3 : Option Addr} {c3 : Nat} {A4 : Option Addr} {c4 : Nat} {fp : List Nat} (k : Int) (h : Own lo hi w (x.mark k) (.slice A3 x.f3.length c3) (.slice A4 x.f4.length c4) fp) (hk0 : 1 ≤ k) (hk1 : k + 3 * x.tot ≤ 1000000000) :
    Calls Try.prog 20 #[.agg #[.int .i64 x.f0, .string x.f1, .int .i64 x.f2, .slice A3 x.f3.length c3, .slice A4 x.f4.length c4], .int .i64 k] w (Ret w (.int .i64 (k + x.cnt))) := by
  have hc := x.cnt_tot
  refine heldForm_any x A3 c3 A4 c4 k w ?_ hk0 (by omega)
  have e3 : (x.mark k).f3.length = x.f3.length := by rw [Fm.mark_eq]; exact markI_length _ _
  have e4 : (x.mark k).f4.length = x.f4.length := by rw [Fm.mark_eq]; exact markL_length _ _
  rw [← e3, ← e4] at h
  exact h.now
end Go.Proofs.Ytnaefjilcabkoaa
end
section
namespace Go.Proofs.Ytnaefjilcabkoaa
open Go.RowKit Go.Proofs.YtnaefjilcabkoaaW.PrintWords Go.Proofs.YtnaefjilcabkoaaW.PrintLast Go.Proofs.YtnaefjilcabkoaaW.PrintMore
set_option linter.unusedVariables false
set_option linter.unusedSimpArgs false
/-- Behind the world w (two blocks O1, O2, then g3): the form's variable holds C. -/
structure Fr (w : World) (O1 O2 : Obj) (g3 : Nat) (C : Array Value) (W : World) : Prop where
  b : Below w.heap.size w W
  k1 : W.heap[w.heap.size]? = some O1
  k2 : W.heap[w.heap.size + 1]? = some O2
  k3 : W.heap[g3]? = some (.cells C 29 (0, 0))
  h3 : w.heap.size + 2 ≤ g3
theorem Fr.later {w W W1 : World} {O1 O2 : Obj} {g3 : Nat} {C : Array Value} (h : Fr w O1 O2 g3 C W) (hb : Below W.heap.size W W1) : Fr w O1 O2 g3 C W1 :=
  ⟨below_step h.b hb, blk_below h.k1 hb, blk_below h.k2 hb, blk_below h.k3 hb, h.h3⟩
theorem Fr.lt {w W : World} {O1 O2 : Obj} {g3 : Nat} {C : Array Value} (h : Fr w O1 O2 g3 C W) : w.heap.size + 2 ≤ W.heap.size ∧ g3 < W.heap.size := by
  have h1 := blk_lt h.k2
  have h2 := blk_lt h.k3
  omega
theorem Fr.grown {w W W1 : World} {O1 O2 : Obj} {g3 : Nat} {C : Array Value} {row : Option Nat} (h : Fr w O1 O2 g3 C W) (hg : W.grownBy W1 row) (hr : ∀ k, row = some k → w.heap.size + 2 ≤ k ∧ k ≠ g3) : Fr w O1 O2 g3 C W1 := by
  have hl := h.lt
  have hne : ∀ k, k < w.heap.size + 2 ∨ k = g3 → some k ≠ row := fun k hk he => by
    have := hr k he.symm
    omega
  refine ⟨⟨hg.os.trans h.b.os, hg.tape.trans h.b.tape, hg.output.trans h.b.output, Nat.le_trans h.b.size hg.size, fun k hk => (hg.block k (by omega) (hne k (by omega))).trans (h.b.block k hk)⟩, ?_, ?_, ?_, h.h3⟩
  · exact (hg.block _ (by omega) (hne _ (by omega))).trans h.k1
  · exact (hg.block _ (by omega) (hne _ (by omega))).trans h.k2
  · exact (hg.block _ (by omega) (hne _ (by omega))).trans h.k3
theorem Fr.put {w W : World} {O1 O2 : Obj} {g3 : Nat} {a b c d u : Value} (h : Fr w O1 O2 g3 #[a, b, c, d, u] W) (v : Value) : Fr w O1 O2 g3 #[a, b, c, d, v] (W.setCell ⟨g3, 4, none⟩ v) := by
  have h3 := h.h3
  refine ⟨below_set h.b (by show w.heap.size ≤ g3; omega), ?_, ?_, ?_, h3⟩
  · rw [Below.heap_setCell _ _ _ _ (by show w.heap.size ≠ g3; omega)]; exact h.k1
  · rw [Below.heap_setCell _ _ _ _ (by show w.heap.size + 1 ≠ g3; omega)]; exact h.k2
  · simpa using blk_set h.k3 4 v
theorem Fr.put3 {w W : World} {O1 O2 : Obj} {g3 : Nat} {a b c d u : Value} (h : Fr w O1 O2 g3 #[a, b, c, d, u] W) (v : Value) : Fr w O1 O2 g3 #[a, b, c, v, u] (W.setCell ⟨g3, 3, none⟩ v) := by
  have h3 := h.h3
  refine ⟨below_set h.b (by show w.heap.size ≤ g3; omega), ?_, ?_, ?_, h3⟩
  · rw [Below.heap_setCell _ _ _ _ (by show w.heap.size ≠ g3; omega)]; exact h.k1
  · rw [Below.heap_setCell _ _ _ _ (by show w.heap.size + 1 ≠ g3; omega)]; exact h.k2
  · simpa using blk_set h.k3 3 v
/-- The rows of the form that is being built: its scopes, and what is done of its parts. -/
structure Cp (w : World) (O1 O2 : Obj) (g3 : Nat) (k : Int) (n : ByteArray) (m : Int) (sc : List Int) (done : List Fm) (v3 v : Value) (inner : List Value) (fp : List Nat) (W : World) : Prop where
  fr : Fr w O1 O2 g3 #[.int .i64 k, .string n, .int .i64 m, v3, v] W
  o3 : W.ownsRow 0 3 1 v3 sc.length (encI sc)
  o4 : W.ownsRow 0 29 5 v done.length inner
  tr : TrL W done inner fp
  nd : (obs v3 ++ (obs v ++ fp)).Nodup
  ge : ∀ b, b ∈ obs v3 ++ (obs v ++ fp) → w.heap.size + 2 ≤ b ∧ b ≠ g3
section
variable {w W W1 : World} {O1 O2 : Obj} {g3 : Nat} {k m : Int} {n : ByteArray} {sc : List Int} {done : List Fm} {v3 v : Value} {inner : List Value} {fp : List Nat}
theorem Cp.lt (h : Cp w O1 O2 g3 k n m sc done v3 v inner fp W) : ∀ b, b ∈ obs v3 ++ (obs v ++ fp) → b < W.heap.size := by
  intro b hb
  rcases List.mem_append.1 hb with hb | hb
  · exact own_lt h.o3 b (obs_mem.1 hb)
  rcases List.mem_append.1 hb with hb | hb
  · exact own_lt h.o4 b (obs_mem.1 hb)
  · exact h.tr.lt _ b hb
theorem Cp.later (h : Cp w O1 O2 g3 k n m sc done v3 v inner fp W) (hb : Below W.heap.size W W1) : Cp w O1 O2 g3 k n m sc done v3 v inner fp W1 := by
  have hl := h.lt
  refine ⟨h.fr.later hb, own_move h.o3 (fun b hb2 => hb.block b (hl b (by simp [obs_mem, hb2]))), own_move h.o4 (fun b hb2 => hb.block b (hl b (by simp [obs_mem, hb2]))), h.tr.later hb, h.nd, h.ge⟩
/-- Another part is done: behind the append, and the store into the variable. -/
theorem Cp.more (h : Cp w O1 O2 g3 k n m sc done v3 v inner fp W) {B : Nat} {y : Fm} {u3 u4 : Value} (hB : ∀ b, b ∈ obs v3 ++ (obs v ++ fp) → b < B) (hg3 : g3 < B) (hB2 : w.heap.size + 2 ≤ B) (hn : NewF B W y u3 u4)
    {v' : Value} (ho : W1.ownsRow 0 29 5 v' (done.length + 1) (inner ++ [.int .i64 y.f0, .string y.f1, .int .i64 y.f2, u3, u4])) (hg : W.grownBy W1 v.ownBlock) (hat : v'.ownBlock = v.ownBlock ∨ ∃ b, v'.ownBlock = some b ∧ W.heap.size ≤ b) :
    ∃ fp', Cp w O1 O2 g3 k n m sc (done ++ [y]) v3 v' (inner ++ [.int .i64 y.f0, .string y.f1, .int .i64 y.f2, u3, u4]) fp' (W1.setCell ⟨g3, 4, none⟩ v') := by
  obtain ⟨fk, ht, hnd, hge⟩ := hn
  have hl := h.lt
  have hnd0 := h.nd
  have hge0 := h.ge
  simp only [List.nodup_append, List.mem_append] at hnd0 hge0 hl hB
  obtain ⟨n3, ⟨n4, n5, n45⟩, n345⟩ := hnd0
  have htl := ht.lt y
  have hlt1 : ∀ b, b ∈ obs v' → b < W1.heap.size := fun b hb => own_lt ho b (obs_mem.1 hb)
  have hobs : ∀ b, b ∈ obs v' → b ∈ obs v ∨ W.heap.size ≤ b := by
    intro b hb
    rcases hat with e | ⟨c, e, hc⟩
    · exact .inl (obs_mem.2 (e ▸ obs_mem.1 hb))
    · have := obs_mem.1 hb
      rw [e] at this
      cases this
      exact .inr hc
  have hnv : ∀ b, b ∈ obs v3 ∨ b ∈ fp ∨ b ∈ fk → some b ≠ v.ownBlock := by
    intro b hb he
    have hbv : b ∈ obs v := obs_mem.2 he.symm
    rcases hb with hb | hb | hb
    · exact n345 b hb b (.inl hbv) rfl
    · exact n45 b hbv b hb rfl
    · have := hB b (.inr (.inl hbv))
      have := hge b hb
      omega
  have hmv : ∀ b, b ∈ obs v3 ∨ b ∈ fp ∨ b ∈ fk → (W1.setCell ⟨g3, 4, none⟩ v').heap[b]? = W.heap[b]? := by
    intro b hb
    have hb2 : b < W.heap.size ∧ b ≠ g3 := by
      rcases hb with hb | hb | hb
      · exact ⟨hl b (.inl hb), (hge0 b (.inl hb)).2⟩
      · exact ⟨hl b (.inr (.inr hb)), (hge0 b (.inr (.inr hb))).2⟩
      · have := hge b hb
        exact ⟨htl b hb, by omega⟩
    rw [Below.heap_setCell _ _ _ _ (by show b ≠ g3; exact hb2.2)]
    exact hg.block b hb2.1 (hnv b hb)
  have hv'3 : ∀ b, b ∈ obs v' → b ≠ g3 := by
    intro b hb he
    have hl3 := h.fr.lt
    rcases hobs b hb with h1 | h1
    · exact (hge0 b (.inr (.inl h1))).2 he
    · omega
  have hrow := h.fr.grown hg (fun c hc => hge0 c (.inr (.inl (obs_mem.2 hc))))
  refine ⟨fp ++ fk, hrow.put v', ?_, ?_, ?_, ?_, ?_⟩
  · exact own_move h.o3 (fun b hb => hmv b (.inl (obs_mem.2 hb)))
  · rw [List.length_append]
    exact own_move ho (fun b hb => Below.heap_setCell _ _ _ _ (by show b ≠ g3; exact hv'3 b (obs_mem.2 hb)))
  · exact (h.tr.move _ (fun b hb => hmv b (.inr (.inl hb)))).append (TrL.one (ht.move y (fun b hb => hmv b (.inr (.inr hb)))))
  · simp only [List.nodup_append, List.mem_append]
    refine ⟨n3, ⟨?_, ⟨n5, hnd, fun a ha b hb e => ?_⟩, fun a ha b hb e => ?_⟩, fun a ha b hb e => ?_⟩
    · unfold obs
      cases v'.ownBlock <;> simp
    · have := hB a (.inr (.inr ha)); have := hge b hb; omega
    · subst e
      rcases hobs a ha with h1 | h1
      · rcases hb with hb | hb
        · exact n45 a h1 a hb rfl
        · have := hB a (.inr (.inl h1)); have := hge a hb; omega
      · rcases hb with hb | hb
        · have := hl a (.inr (.inr hb)); omega
        · have := htl a hb; omega
    · subst e
      rcases hb with hb | hb | hb
      · rcases hobs a hb with h1 | h1
        · exact n345 a ha a (.inl h1) rfl
        · have := hl a (.inl ha); omega
      · exact n345 a ha a (.inr hb) rfl
      · have := hB a (.inl ha); have := hge a hb; omega
  · simp only [List.mem_append]
    intro b hb
    have hl3 := h.fr.lt
    rcases hb with hb | hb | hb | hb
    · exact hge0 b (.inl hb)
    · rcases hobs b hb with h1 | h1
      · exact hge0 b (.inr (.inl h1))
      · exact ⟨by omega, by omega⟩
    · exact hge0 b (.inr (.inr hb))
    · have := hge b hb
      exact ⟨by omega, by omega⟩
/-- All parts are done. -/
theorem Cp.newF (h : Cp w O1 O2 g3 k n m sc done v3 v inner fp W) (hW : ∀ b, b ≠ w.heap.size + 1 → W1.heap[b]? = W.heap[b]?) : NewF w.heap.size W1 ⟨k, n, m, sc, done⟩ v3 v := by
  have hge := h.ge
  refine ⟨_, .mk ⟨k, n, m, sc, done⟩ v3 v inner fp (own_move h.o3 (fun b hb => hW b ?_)) (own_move h.o4 (fun b hb => hW b ?_)) (h.tr.move _ (fun b hb => hW b ?_)), h.nd, fun b hb => ?_⟩
  · have := hge b (by simp [obs_mem, hb]); omega
  · have := hge b (by simp [obs_mem, hb]); omega
  · have := hge b (by simp [hb]); omega
  · have := hge b hb; omega
end
theorem st5 {W : World} {g : Nat} {t : TypeId} {a0 a1 a2 a3 a4 : Value} (h : W.heap[g]? = some (.cells #[a0, a1, a2, a3, a4] t (0, 0))) (b0 b1 b2 b3 b4 : Value) :
    (((((W.setCell ⟨g, 0, none⟩ b0).setCell ⟨g, 1, none⟩ b1).setCell ⟨g, 2, none⟩ b2).setCell ⟨g, 3, none⟩ b3).setCell ⟨g, 4, none⟩ b4).heap[g]? = some (.cells #[b0, b1, b2, b3, b4] t (0, 0)) ∧
    (∀ k, k ≠ g → (((((W.setCell ⟨g, 0, none⟩ b0).setCell ⟨g, 1, none⟩ b1).setCell ⟨g, 2, none⟩ b2).setCell ⟨g, 3, none⟩ b3).setCell ⟨g, 4, none⟩ b4).heap[k]? = W.heap[k]?) ∧
    (∀ (B : Nat) (a : World), Below B a W → B ≤ g → Below B a (((((W.setCell ⟨g, 0, none⟩ b0).setCell ⟨g, 1, none⟩ b1).setCell ⟨g, 2, none⟩ b2).setCell ⟨g, 3, none⟩ b3).setCell ⟨g, 4, none⟩ b4)) := by
  refine ⟨?_, fun k hk => ?_, fun B a h hg => ?_⟩
  · have s0 := blk_set h 0 b0
    have s1 := blk_set s0 1 b1
    have s2 := blk_set s1 2 b2
    have s3 := blk_set s2 3 b3
    have s4 := blk_set s3 4 b4
    simpa using s4
  · rw [Below.heap_setCell _ _ _ _ (by exact hk), Below.heap_setCell _ _ _ _ (by exact hk), Below.heap_setCell _ _ _ _ (by exact hk), Below.heap_setCell _ _ _ _ (by exact hk), Below.heap_setCell _ _ _ _ (by exact hk)]
  · exact ((((h.setCell (p := ⟨g, _, none⟩) hg _).setCell (p := ⟨g, _, none⟩) hg _).setCell (p := ⟨g, _, none⟩) hg _).setCell (p := ⟨g, _, none⟩) hg _).setCell (p := ⟨g, _, none⟩) hg _
/-- The form's variable is laid: no part is done yet. -/
theorem Cp.start {w w5 wz W : World} {O1 O2 : Obj} {g3 : Nat} {k m : Int} {n : ByteArray} {sc : List Int} {v3 : Value} {ok : Nat → Prop} (hk1 : w5.heap[w.heap.size]? = some O1) (hk2 : w5.heap[w.heap.size + 1]? = some O2) (hb0 : Below w.heap.size w w5) (hsz : w.heap.size + 2 ≤ w5.heap.size)
    (hbz : Below w5.heap.size w5 wz) (ho3 : kI.R 3 wz w5.heap.size ok v3 sc) (hg3 : w5.heap.size ≤ g3) (hne : some g3 ≠ v3.ownBlock) (hW : W.heap[g3]? = some (.cells #[.int .i64 k, .string n, .int .i64 m, v3, .slice none 0 0] 29 (0, 0)))
    (hWo : ∀ b, b ≠ g3 → W.heap[b]? = wz.heap[b]?) (hWb : Below w5.heap.size w5 W) : Cp w O1 O2 g3 k n m sc [] v3 (.slice none 0 0) [] [] W := by
  have h1 := blk_lt hk2
  have hb := Kd.R_base ho3
  refine ⟨⟨hb0.trans (hWb.mono hb0.size), blk_below hk1 hWb, blk_below hk2 hWb, hW, by omega⟩, own_move (own_weaken (Kd.own_of_R ho3) (Nat.zero_le _)) (fun b hb2 => hWo b (fun e => hne (by rw [← e, hb2]))), by simp [World.ownsRow], .nil, ?_, fun b hb2 => ?_⟩
  · rw [show obs v3 ++ (obs (Value.slice none 0 0) ++ []) = obs v3 from by simp [obs, Value.ownBlock]]
    unfold obs
    cases v3.ownBlock <;> simp
  · have hb3 : b ∈ obs v3 := by simpa [obs, Value.ownBlock] using hb2
    have := hb b (obs_mem.1 hb3)
    exact ⟨by omega, fun e => hne (by rw [← e, obs_mem.1 hb3])⟩
/-- Before any part is done, the form gets other scopes. -/
theorem Cp.rescope {w W0 W1 : World} {O1 O2 : Obj} {g3 : Nat} {k m : Int} {n : ByteArray} {sc sc' : List Int} {v0 v3 : Value} {ok : Nat → Prop} (h : Cp w O1 O2 g3 k n m sc [] v0 (.slice none 0 0) [] [] W0) (hb : Below W0.heap.size W0 W1) (hr : kI.R 3 W1 W0.heap.size ok v3 sc') :
    Cp w O1 O2 g3 k n m sc' [] v3 (.slice none 0 0) [] [] (W1.setCell ⟨g3, 3, none⟩ v3) := by
  have hl := h.fr.lt
  have hbs := Kd.R_base hr
  refine ⟨(h.fr.later hb).put3 v3, own_move (own_weaken (Kd.own_of_R hr) (Nat.zero_le _)) (fun b hb2 => Below.heap_setCell _ _ _ _ (by have := hbs b hb2; show b ≠ g3; omega)), by simp [World.ownsRow], .nil, ?_, fun b hb2 => ?_⟩
  · rw [show obs v3 ++ (obs (Value.slice none 0 0) ++ []) = obs v3 from by simp [obs, Value.ownBlock]]
    unfold obs
    cases v3.ownBlock <;> simp
  · have hb3 : b ∈ obs v3 := by simpa [obs, Value.ownBlock] using hb2
    have := hbs b (obs_mem.1 hb3)
    exact ⟨by omega, by omega⟩
end Go.Proofs.Ytnaefjilcabkoaa
end
section
namespace Go.Proofs.Ytnaefjilcabkoaa
open Go.RowKit Go.Proofs.YtnaefjilcabkoaaW.PrintWords Go.Proofs.YtnaefjilcabkoaaW.PrintLast Go.Proofs.YtnaefjilcabkoaaW.PrintMore
set_option linter.unusedVariables false
set_option linter.unusedSimpArgs false
/-- A row of numbers in new memory is handed back. -/
def RetI (w : World) (xs : List Int) (e : Ending) (w' : World) : Prop := ∃ v, e = .returned v ∧ kI.R 3 w' w.heap.size (fun _ => True) v xs ∧ Below w.heap.size w w'
set_option maxHeartbeats 1000000 in
theorem cloneI_any (xs : List Int) (A : Option Addr) (c : Nat) (w : World) (hr : kI.C w A xs.length xs) (hc : xs.length ≤ c) (hs : xs.length ≤ 17592186044416) :
    Calls Try.prog 121 #[.slice A xs.length c] w (RetI w xs) := by
  have hmax := hr.2.1
  cases A with
  | none =>
    have hz : xs = [] := by
      rcases hr.2.2 with h
      by_cases hp : 0 < xs.length
      · obtain ⟨ad, he, _⟩ := h hp
        cases he
      · exact List.eq_nil_of_length_eq_zero (by omega)
    subst hz
    have hq := fun w => Go.run_eql_slice_nil (P := Try.prog) w 22 3 none 0 c Try.underlying22
    simp only [Option.isNone_none] at hq
    clear hr hmax
    go_enter Try.func121, Try.ntmps121
    go_wp2_with fail
    go_ret
    exact ⟨_, rfl, Kd.R_nil _ _ _ _ _, Below.refl _ _⟩
  | some ad =>
    have hq := fun w => Go.run_eql_slice_nil (P := Try.prog) w 22 3 (some ad) xs.length c Try.underlying22
    simp only [Option.isNone_some] at hq
    have HR := Aside0.mk hr
    clear hr
    go_enter Try.func121, Try.ntmps121
    go_wp2_with (first | ((with_reducible refine gate_dst (N := 5) rfl ?_); refine Kd.R_lit (Kd.int .i64) _ 3 ?hg (N := 5) ?hd (xs := ([] : List Int)) (inner := []) (ok := fun _ => True) (okp := fun _ => True) ?hr ?hp (fun _ hk => hk) trivial (Below.refl _ _) (Nat.le_refl _) (by simp) ?_; (case hd => rfl); (case hg => rfl); (case hr => first | (go_simp; done) | (go_simp; rfl)); (case hp => exact (Reps.none _ _)); intro v0 w0 ho0 hb0 hg0 hn0; have HO := Aside0.mk ho0; have HB := Aside0.mk hb0; clear ho0 hb0 hg0 hn0) | ((with_reducible refine gate_dst (N := 7) rfl ?_); refine Kd.R_append_row (Value.int .i64) (0 : Int) (w0 := w) w.heap.size rfl (.tmp 5) (.tmp 6) 22 3 (.int .i64 0) 8 rfl Try.underlying22 infoI rfl (by decide) v0 [] xs (some ad) xs.length c (fun _ => True) rfl rfl (fun _ _ => trivial) HO.out (Kd.C_below HR.out HB.out) HB.out HB.out.size (by simp; omega) ?_; intro v1 w1 ho1 hb1 hg1 hn1; have HO1 := Aside0.mk ho1; have HB1 := Aside0.mk hb1; clear ho1 hb1 hg1 hn1))
    go_ret
    exact ⟨_, rfl, (by have := HO1.out; rw [List.nil_append] at this; exact this), HB1.out⟩
end Go.Proofs.Ytnaefjilcabkoaa
end
section
namespace Go.Proofs.Ytnaefjilcabkoaa
set_option linter.unusedVariables false
mutual
/-- A form without scopes. -/
def Fm.bare : Fm → Fm
  | ⟨a, b, c, _, ks⟩ => ⟨a, b, c, [], bareL ks⟩
def bareL : List Fm → List Fm
  | [] => []
  | k :: ks => k.bare :: bareL ks
end
end Go.Proofs.Ytnaefjilcabkoaa
end
section
namespace Go.Proofs.Ytnaefjilcabkoaa
open Go.RowKit Go.Proofs.YtnaefjilcabkoaaW.PrintWords Go.Proofs.YtnaefjilcabkoaaW.PrintLast Go.Proofs.YtnaefjilcabkoaaW.PrintMore
set_option linter.unusedVariables false
set_option linter.unusedSimpArgs false
theorem scTot (x : Fm) : x.f3.length ≤ x.tot := by
  have := x.tot_eq; omega
set_option maxHeartbeats 4000000 in
set_option maxRecDepth 100000 in
theorem l1Copy_any : ∀ x : Fm, ∀ (A3 : Option Addr) (c3 : Nat) (A4 : Option Addr) (c4 : Nat) (w : World), FmIn w x A3 c3 A4 c4 → x.tot ≤ 1000000000 →
    Calls Try.prog 73 #[.agg #[.int .i64 x.f0, .string x.f1, .int .i64 x.f2, .slice A3 x.f3.length c3, .slice A4 x.f4.length c4]] w (RetF w x) := by
  intro x
  induction x using Fm.ind with
  | h x ih =>
    intro A3 c3 A4 c4 w hin ht
    have hmax := hin.g4.2.1
    have HI := Lib.hid hin
    have HT := Lib.hid ht
    have IH := Lib.hid ih
    clear hin ht ih
    go_enter Try.func73, Try.ntmps73
    go_wp2_with fail
    obtain ⟨kb1, kb2, hb0⟩ := two_new (w := w) (O1 := (.cells #[.int .i64 x.f0, .string x.f1, .int .i64 x.f2, .slice A3 x.f3.length c3, .slice A4 x.f4.length c4] 29)) (O2 := (.cells #[.int .i64 0, .string ⟨#[]⟩, .int .i64 0, .slice none 0 0, .slice none 0 0] 29)) (Below.refl _ _).drew
    obtain ⟨p0, p1, p2, p3, p4⟩ := fm_cells kb1
    refine start_ (n := 13) (S := fun w' => w'.cell? ⟨w.heap.size, 0, none⟩ = some (.int .i64 x.f0) ∧ w'.cell? ⟨w.heap.size, 1, none⟩ = some (.string x.f1) ∧ w'.cell? ⟨w.heap.size, 2, none⟩ = some (.int .i64 x.f2) ∧ w'.cell? ⟨w.heap.size, 3, none⟩ = some (.slice A3 x.f3.length c3)) (ds := []) #[false, false, false, false, false, false, false, false, false, false, false, false, false] (by kernel_rfl) rfl rfl ⟨p0, p1, p2, p3⟩ (fun hHeld => ?_)
    have hsz : w.heap.size + 2 ≤ (((w.alloc (.cells #[.int .i64 x.f0, .string x.f1, .int .i64 x.f2, .slice A3 x.f3.length c3, .slice A4 x.f4.length c4] 29)).alloc (.cells #[.int .i64 0, .string ⟨#[]⟩, .int .i64 0, .slice none 0 0, .slice none 0 0] 29)).drew).heap.size := by simp
    generalize World.drew _ = w5 at kb1 kb2 hb0 hsz p0 p1 p2 p3 p4 hHeld ⊢
    have P0 := Lib.hid p0
    have P1 := Lib.hid p1
    have P2 := Lib.hid p2
    have P3 := Lib.hid p3
    have KB1 := Lib.hid kb1
    have KB2 := Lib.hid kb2
    have HB0 := Lib.hid hb0
    have HSZ := Lib.hid hsz
    clear p0 p1 p2 p3 p4 kb1 kb2 hb0 hsz
    refine pure_ (i := 0) (N := some 5) (v := ?_) (a' := ?_) #[true, false, false, false, false, false, false, false, false, false, false, false, false] rfl rfl (by kernel_rfl) (fun _ _ _ h => h) (Or.inl ⟨by rfl, ?_⟩) ?_ ?_
    rotate_left
    · intro w'
      go_simp
      with_reducible rfl
    rotate_left
    · simp only [Act.put, List.setIfInBounds_toArray, List.set_cons_zero, List.set_cons_succ, i64_w, i32_w]
      rfl
    refine pure_ (i := 2) (N := some 7) (v := ?_) (a' := ?_) #[true, false, true, false, false, false, false, false, false, false, false, false, false] rfl rfl (by kernel_rfl) (fun _ _ _ h => h) (Or.inl ⟨by rfl, ?_⟩) ?_ ?_
    rotate_left
    · intro w'
      go_simp
      with_reducible rfl
    rotate_left
    · simp only [Act.put, List.setIfInBounds_toArray, List.set_cons_zero, List.set_cons_succ, i64_w, i32_w]
      rfl
    refine pure_ (i := 4) (N := some 9) (v := ?_) (a' := ?_) #[true, false, true, false, true, false, false, false, false, false, false, false, false] rfl rfl (by kernel_rfl) (fun _ _ _ h => h) (Or.inl ⟨by rfl, ?_⟩) ?_ ?_
    rotate_left
    · intro w'
      go_simp
      with_reducible rfl
    rotate_left
    · simp only [Act.put, List.setIfInBounds_toArray, List.set_cons_zero, List.set_cons_succ, i64_w, i32_w]
      rfl
    refine pure_ (i := 7) (N := some 12) (v := ?_) (a' := ?_) #[true, false, true, false, true, false, false, true, false, false, false, false, false] rfl rfl (by kernel_rfl) (fun _ _ _ h => h) (Or.inl ⟨by rfl, ?_⟩) ?_ ?_
    rotate_left
    · intro w'
      go_simp
      with_reducible rfl
    rotate_left
    · simp only [Act.put, List.setIfInBounds_toArray, List.set_cons_zero, List.set_cons_succ, i64_w, i32_w]
      rfl
    refine take_ (i := 1) (N := some 6) (v := ?_) (a' := ?_) #[true, true, true, false, true, false, false, true, false, false, false, false, false] rfl rfl (by kernel_rfl) (fun _ _ _ h => h) (Or.inl ⟨by rfl, ?_⟩) hHeld ?_ ?_
    rotate_left
    · rintro w' ⟨s0, s1, s2, s3⟩
      go_simp
      with_reducible rfl
    rotate_left
    · simp only [Act.put, List.setIfInBounds_toArray, List.set_cons_zero, List.set_cons_succ, i64_w, i32_w]
      rfl
    refine take_ (i := 3) (N := some 8) (v := ?_) (a' := ?_) #[true, true, true, true, true, false, false, true, false, false, false, false, false] rfl rfl (by kernel_rfl) (fun _ _ _ h => h) (Or.inl ⟨by rfl, ?_⟩) hHeld ?_ ?_
    rotate_left
    · rintro w' ⟨s0, s1, s2, s3⟩
      go_simp
      with_reducible rfl
    rotate_left
    · simp only [Act.put, List.setIfInBounds_toArray, List.set_cons_zero, List.set_cons_succ, i64_w, i32_w]
      rfl
    refine take_ (i := 5) (N := some 10) (v := ?_) (a' := ?_) #[true, true, true, true, true, true, false, true, false, false, false, false, false] rfl rfl (by kernel_rfl) (fun _ _ _ h => h) (Or.inl ⟨by rfl, ?_⟩) hHeld ?_ ?_
    rotate_left
    · rintro w' ⟨s0, s1, s2, s3⟩
      go_simp
      with_reducible rfl
    rotate_left
    · simp only [Act.put, List.setIfInBounds_toArray, List.set_cons_zero, List.set_cons_succ, i64_w, i32_w]
      rfl
    refine take_ (i := 8) (N := some 13) (v := ?_) (a' := ?_) #[true, true, true, true, true, true, false, true, true, false, false, false, false] rfl rfl (by kernel_rfl) (fun _ _ _ h => h) (Or.inl ⟨by rfl, ?_⟩) hHeld ?_ ?_
    rotate_left
    · rintro w' ⟨s0, s1, s2, s3⟩
      go_simp
      with_reducible rfl
    rotate_left
    · simp only [Act.put, List.setIfInBounds_toArray, List.set_cons_zero, List.set_cons_succ, i64_w, i32_w]
      rfl
    refine join_ (σ := Value × Value × Nat) 1 #[true, true, true, true, true, true, true, true, true, true, true, true, false] (fun s_ => [(11, s_.1), (14, s_.2.1), (3, .pointer (some ⟨s_.2.2, 0, none⟩)), (15, .agg #[.int .i64 x.f0, .string x.f1, .int .i64 x.f2, s_.2.1, .slice none 0 0])]) (fun s_ w' => Below w5.heap.size w5 w' ∧ kI.R 3 w' w5.heap.size (fun _ => True) s_.2.1 x.f3 ∧ w'.heap[s_.2.2]? = some (.cells #[.int .i64 0, .string ⟨#[]⟩, .int .i64 0, .slice none 0 0, .slice none 0 0] 29) ∧ w5.heap.size ≤ s_.2.2) ?_ ?_
    rotate_left
    · intro hCont
      refine two_ (i := 6) (j := 11) (Ni := some 11) (Nj := some 3) #[true, true, true, true, true, true, true, true, true, false, false, false, false] #[true, true, true, true, true, true, false, true, true, false, false, true, false] rfl rfl rfl rfl (by kernel_rfl) (by decide) (by decide) (fun K hK => ?_) (fun K hK => ?_)
      · refine Kd.R_lit_step (Kd.int .i64) _ 3 ?hg (N := 11) ?hd (xs := ([] : List Int)) (inner := []) (ok := fun _ => True) (okp := fun _ => True) ?hr ?hp (fun _ hk => hk) trivial (Below.refl _ _) (Nat.le_refl _) (by simp) ?_; (case hd => rfl); (case hg => rfl); (case hr => first | (go_simp; done) | (go_simp; rfl)); (case hp => exact (Reps.none _ _))
        intro v0 w6 ho0 hb6 hg6 hn6
        clear hg6 hn6
        refine hK.out _ _ ⟨ck0 hb6 P0.out, ck0 hb6 P1.out, ck0 hb6 P2.out, ck0 hb6 P3.out⟩ (fun hHeld => ?_)
        clear hK K
        refine norm_ (a' := ?_) ?_ ?_
        rotate_left
        · show Act.put _ (some 11) _ = _
          simp only [Act.put, List.setIfInBounds_toArray, List.set_cons_zero, List.set_cons_succ, i64_w, i32_w]
          rfl
        refine two_ (i := 9) (j := 11) (Ni := some 14) (Nj := some 3) #[true, true, true, true, true, true, true, true, true, true, false, false, false] #[true, true, true, true, true, true, true, true, true, false, false, true, false] rfl rfl rfl rfl (by kernel_rfl) (by decide) (by decide) (fun K hK => ?_) (fun K hK => ?_)
        · refine Kd.R_append_rows_step (Kd.int .i64) (w0 := w5) w5.heap.size (by rfl) (.tmp 11) (.tmp 13) 22 3 (.int .i64 0) 8 rfl Try.underlying22 infoI rfl (by decide) (by omega) v0 [] x.f3 _ _ _ (fun _ => True) (fun _ => False) rfl rfl ho0 (Kd.C_below HI.out.g3 (below_step HB0.out hb6)) (fun _ _ h => h) (fun _ h => h.elim) (fun _ _ => trivial) hb6 hb6.size (by have := HT.out; have := scTot x; simp; omega) ?_
          intro v3 w7 ho3 hb7 hg7 hat7
          rw [List.nil_append] at ho3
          obtain ⟨D3, e3, rfl⟩ := Kd.R_slice ho3
          refine hK.out _ _ ⟨ck0 hb7 P0.out, ck0 hb7 P1.out, ck0 hb7 P2.out, ck0 hb7 P3.out⟩ (fun hHeld => ?_)
          clear hK K
          refine norm_ (a' := ?_) ?_ ?_
          rotate_left
          · show Act.put _ (some 14) _ = _
            simp only [Act.put, List.setIfInBounds_toArray, List.set_cons_zero, List.set_cons_succ, i64_w, i32_w]
            rfl
          refine pure_ (i := 10) (N := some 15) (v := ?_) (a' := ?_) #[true, true, true, true, true, true, true, true, true, true, true, false, false] rfl rfl (by kernel_rfl) (fun _ _ _ h => h) (Or.inl ⟨by rfl, ?_⟩) ?_ ?_
          rotate_left
          · intro w'
            go_simp
            with_reducible rfl
          rotate_left
          · simp only [Act.put, List.setIfInBounds_toArray, List.set_cons_zero, List.set_cons_succ, i64_w, i32_w]
            rfl
          refine one_ (i := 11) (N := some 3) #[true, true, true, true, true, true, true, true, true, true, true, true, false] rfl rfl (by kernel_rfl) (by decide) (fun K hK => ?_)
          refine box_step ?hg (N := 3) ?hd (cs := #[.int .i64 0, .string ⟨#[]⟩, .int .i64 0, .slice none 0 0, .slice none 0 0]) (t := 29) ?hr ?_; (case hd => rfl); (case hg => rfl); (case hr => first | (go_simp; done) | (go_simp; rfl))
          intro g3 hg w8 hbox hb8
          have hb9 := below_step hb7 hb8
          refine hK.out _ _ ⟨ck0 hb9 P0.out, ck0 hb9 P1.out, ck0 hb9 P2.out, ck0 hb9 P3.out⟩ (fun hHeld => ?_)
          clear hK K
          refine norm_ (a' := ?_) ?_ ?_
          rotate_left
          · show Act.put _ (some 3) _ = _
            simp only [Act.put, List.setIfInBounds_toArray, List.set_cons_zero, List.set_cons_succ, i64_w, i32_w]
            rfl
          exact norm_ (by simp only [putAll, Act.put, List.setIfInBounds_toArray, List.set_cons_zero, List.set_cons_succ]) (hCont (v0, .slice D3 x.f3.length e3, g3) _ ⟨hb9, Kd.R_below ho3 hb8, hbox, hg ▸ hb7.size⟩)
        · refine box_step ?hg (N := 3) ?hd (cs := #[.int .i64 0, .string ⟨#[]⟩, .int .i64 0, .slice none 0 0, .slice none 0 0]) (t := 29) ?hr ?_; (case hd => rfl); (case hg => rfl); (case hr => first | (go_simp; done) | (go_simp; rfl))
          intro g3 hg w7 hbox hb7
          have hb8 := below_step hb6 hb7
          have ho8 := Kd.R_below ho0 hb7
          have hne := Kd.R_ne ho8 hbox (by decide)
          refine hK.out _ _ ⟨ck0 hb8 P0.out, ck0 hb8 P1.out, ck0 hb8 P2.out, ck0 hb8 P3.out⟩ (fun hHeld => ?_)
          clear hK K
          refine norm_ (a' := ?_) ?_ ?_
          rotate_left
          · show Act.put _ (some 3) _ = _
            simp only [Act.put, List.setIfInBounds_toArray, List.set_cons_zero, List.set_cons_succ, i64_w, i32_w]
            rfl
          refine one_ (i := 9) (N := some 14) #[true, true, true, true, true, true, true, true, true, true, false, true, false] rfl rfl (by kernel_rfl) (by decide) (fun K hK => ?_)
          refine Kd.R_append_rows_step (Kd.int .i64) (w0 := w5) w5.heap.size (by rfl) (.tmp 11) (.tmp 13) 22 3 (.int .i64 0) 8 rfl Try.underlying22 infoI rfl (by decide) (by omega) v0 [] x.f3 _ _ _ (fun _ => True) (fun _ => False) rfl rfl ho8 (Kd.C_below HI.out.g3 (below_step HB0.out hb8)) (fun _ _ h => h) (fun _ h => h.elim) (fun _ _ => trivial) hb8 hb8.size (by have := HT.out; have := scTot x; simp; omega) ?_
          intro v3 w9 ho3 hb9 hg9 hat9
          rw [List.nil_append] at ho3
          obtain ⟨D3, e3, rfl⟩ := Kd.R_slice ho3
          refine hK.out _ _ ⟨ck0 hb9 P0.out, ck0 hb9 P1.out, ck0 hb9 P2.out, ck0 hb9 P3.out⟩ (fun hHeld => ?_)
          clear hK K
          refine norm_ (a' := ?_) ?_ ?_
          rotate_left
          · show Act.put _ (some 14) _ = _
            simp only [Act.put, List.setIfInBounds_toArray, List.set_cons_zero, List.set_cons_succ, i64_w, i32_w]
            rfl
          refine pure_ (i := 10) (N := some 15) (v := ?_) (a' := ?_) #[true, true, true, true, true, true, true, true, true, true, true, true, false] rfl rfl (by kernel_rfl) (fun _ _ _ h => h) (Or.inl ⟨by rfl, ?_⟩) ?_ ?_
          rotate_left
          · intro w'
            go_simp
            with_reducible rfl
          rotate_left
          · simp only [Act.put, List.setIfInBounds_toArray, List.set_cons_zero, List.set_cons_succ, i64_w, i32_w]
            rfl
          exact norm_ (by simp only [putAll, Act.put, List.setIfInBounds_toArray, List.set_cons_zero, List.set_cons_succ]) (hCont (v0, .slice D3 x.f3.length e3, g3) _ ⟨hb9, ho3, blk_grown hbox hg9 hne, hg ▸ hb6.size⟩)
      · refine box_step ?hg (N := 3) ?hd (cs := #[.int .i64 0, .string ⟨#[]⟩, .int .i64 0, .slice none 0 0, .slice none 0 0]) (t := 29) ?hr ?_; (case hd => rfl); (case hg => rfl); (case hr => first | (go_simp; done) | (go_simp; rfl))
        intro g3 hg w6 hbox hb6
        refine hK.out _ _ ⟨ck0 hb6 P0.out, ck0 hb6 P1.out, ck0 hb6 P2.out, ck0 hb6 P3.out⟩ (fun hHeld => ?_)
        clear hK K
        refine norm_ (a' := ?_) ?_ ?_
        rotate_left
        · show Act.put _ (some 3) _ = _
          simp only [Act.put, List.setIfInBounds_toArray, List.set_cons_zero, List.set_cons_succ, i64_w, i32_w]
          rfl
        refine one_ (i := 6) (N := some 11) #[true, true, true, true, true, true, true, true, true, false, false, true, false] rfl rfl (by kernel_rfl) (by decide) (fun K hK => ?_)
        refine Kd.R_lit_step (Kd.int .i64) _ 3 ?hg (N := 11) ?hd (xs := ([] : List Int)) (inner := []) (ok := fun _ => True) (okp := fun _ => True) ?hr ?hp (fun _ hk => hk) trivial (Below.refl _ _) (Nat.le_refl _) (by simp) ?_; (case hd => rfl); (case hg => rfl); (case hr => first | (go_simp; done) | (go_simp; rfl)); (case hp => exact (Reps.none _ _))
        intro v0 w7 ho0 hb7 hg7 hn7
        have hbox7 := blk_below hbox hb7
        have hb8 := below_step hb6 hb7
        have ho8 := Kd.R_lower ho0 hb6.size
        have hne := Kd.R_ne ho0 hbox7 (by decide)
        refine hK.out _ _ ⟨ck0 hb8 P0.out, ck0 hb8 P1.out, ck0 hb8 P2.out, ck0 hb8 P3.out⟩ (fun hHeld => ?_)
        clear hK K
        refine norm_ (a' := ?_) ?_ ?_
        rotate_left
        · show Act.put _ (some 11) _ = _
          simp only [Act.put, List.setIfInBounds_toArray, List.set_cons_zero, List.set_cons_succ, i64_w, i32_w]
          rfl
        refine one_ (i := 9) (N := some 14) #[true, true, true, true, true, true, true, true, true, true, false, true, false] rfl rfl (by kernel_rfl) (by decide) (fun K hK => ?_)
        refine Kd.R_append_rows_step (Kd.int .i64) (w0 := w5) w5.heap.size (by rfl) (.tmp 11) (.tmp 13) 22 3 (.int .i64 0) 8 rfl Try.underlying22 infoI rfl (by decide) (by omega) v0 [] x.f3 _ _ _ (fun _ => True) (fun _ => False) rfl rfl ho8 (Kd.C_below HI.out.g3 (below_step HB0.out hb8)) (fun _ _ h => h) (fun _ h => h.elim) (fun _ _ => trivial) hb8 hb8.size (by have := HT.out; have := scTot x; simp; omega) ?_
        intro v3 w9 ho3 hb9 hg9 hat9
        rw [List.nil_append] at ho3
        obtain ⟨D3, e3, rfl⟩ := Kd.R_slice ho3
        refine hK.out _ _ ⟨ck0 hb9 P0.out, ck0 hb9 P1.out, ck0 hb9 P2.out, ck0 hb9 P3.out⟩ (fun hHeld => ?_)
        clear hK K
        refine norm_ (a' := ?_) ?_ ?_
        rotate_left
        · show Act.put _ (some 14) _ = _
          simp only [Act.put, List.setIfInBounds_toArray, List.set_cons_zero, List.set_cons_succ, i64_w, i32_w]
          rfl
        refine pure_ (i := 10) (N := some 15) (v := ?_) (a' := ?_) #[true, true, true, true, true, true, true, true, true, true, true, true, false] rfl rfl (by kernel_rfl) (fun _ _ _ h => h) (Or.inl ⟨by rfl, ?_⟩) ?_ ?_
        rotate_left
        · intro w'
          go_simp
          with_reducible rfl
        rotate_left
        · simp only [Act.put, List.setIfInBounds_toArray, List.set_cons_zero, List.set_cons_succ, i64_w, i32_w]
          rfl
        exact norm_ (by simp only [putAll, Act.put, List.setIfInBounds_toArray, List.set_cons_zero, List.set_cons_succ]) (hCont (v0, .slice D3 x.f3.length e3, g3) _ ⟨hb9, ho3, blk_grown hbox7 hg9 hne, Nat.le_of_eq hg.symm⟩)
    rintro ⟨v0, v3, g3⟩ wz ⟨hbz, ho3, hbox, hg3⟩
    dsimp only at ho3 hbox hg3
    have hHeld : True := trivial
    refine norm_ (a' := ?_) ?_ ?_
    rotate_left
    · simp only [putAll, Act.put, List.setIfInBounds_toArray, List.set_cons_zero, List.set_cons_succ]
      rfl
    have K1z := blk_below KB1.out hbz
    have hl1 := blk_lt KB1.out
    have hne3 := Kd.R_ne ho3 hbox (by decide)
    obtain ⟨D3, e3, rfl⟩ := Kd.R_slice ho3
    obtain ⟨st1, st2, st3⟩ := st5 hbox (.int .i64 x.f0) (.string x.f1) (.int .i64 x.f2) (.slice D3 x.f3.length e3) (.slice none 0 0)
    have hS5 := fm_cells ((st2 w.heap.size (by omega)).trans K1z)
    have HCP := Lib.hid (Cp.start (w := w) KB1.out KB2.out HB0.out HSZ.out hbz ho3 hg3 hne3 st1 st2 (st3 _ _ hbz hg3))
    obtain ⟨z0, z1, z2, z3, z4⟩ := fm_cells hbox
    obtain ⟨f0, f1, f2, f3, f4⟩ := fm_free hbox
    clear hbz ho3 hbox hg3 K1z hl1 hne3 st1 st2 st3 KB1 KB2 HB0 HSZ P0 P1 P2 P3
    refine one_ (i := 12) (N := none) #[true, true, true, true, true, true, true, true, true, true, true, true, true] rfl rfl (by kernel_rfl) (by decide) (fun K hK => ?_)
    refine skip_ (w1 := ?_) (by rfl) rfl ?_ ?_
    rotate_left
    · go_simp
      rfl
    refine hK.out _ _ ⟨hS5.1, hS5.2.1, hS5.2.2.1, hS5.2.2.2.1⟩ (fun hHeld => ?_)
    clear hK K z0 z1 z2 z3 z4 f0 f1 f2 f3 f4 hS5
    refine done_ (by kernel_rfl) ?_
    try go_wp2_with fail
    go_loopg [4] x.f4.length (fun kq v4 w' => ∃ i : Nat, i ≤ x.f4.length ∧ x.f4.length - i ≤ kq ∧ v4 = .int .i64 i ∧ Aside0 (∃ v inner fp, Cp w (.cells #[.int .i64 x.f0, .string x.f1, .int .i64 x.f2, .slice A3 x.f3.length c3, .slice A4 x.f4.length c4] 29) (.cells #[.int .i64 0, .string ⟨#[]⟩, .int .i64 0, .slice none 0 0, .slice none 0 0] 29) g3 x.f0 x.f1 x.f2 x.f3 (x.f4.take i) (.slice D3 x.f3.length e3) v inner fp w'))
    case atStart => exact ⟨0, Nat.zero_le _, by omega, rfl, ⟨⟨.slice none 0 0, [], [], by simpa using HCP.out⟩⟩⟩
    case round =>
      obtain ⟨i, hi, hg, rfl, HO⟩ := hrel
      by_cases hlt : i < x.f4.length
      · obtain ⟨v, inner, fp, hC⟩ := HO.out
        obtain ⟨p0, p1, p2, p3, p4⟩ := fm_cells hC.fr.k1
        obtain ⟨ad, G3, m3, G4, m4, e, g0, g1, g2, g3_, g4, hk⟩ := kid_at HI.out.g4 i hlt
        subst e
        have hkt := totL_mem (List.getElem_mem hlt)
        have hxt := HT.out
        rw [Fm.tot_eq] at hxt
        have r1 : (0 : Int) ≤ (i : Int) := by omega
        have r2 : (i : Int) < (x.f4.length : Int) := by omega
        have hlen := len_totL x.f4
        have HKT := Lib.hid (show x.f4[i].tot ≤ 1000000000 by omega)
        have HLN := Lib.hid (show x.f4.length ≤ 1000000000 by omega)
        have HK := Lib.hid hk
        have HC := Lib.hid hC
        have SK := Lib.hid (fun (W : World) (hf : Fr w (.cells #[.int .i64 x.f0, .string x.f1, .int .i64 x.f2, .slice A3 x.f3.length c3, .slice (some ad) x.f4.length c4] 29) (.cells #[.int .i64 0, .string ⟨#[]⟩, .int .i64 0, .slice none 0 0, .slice none 0 0] 29) g3 #[.int .i64 x.f0, .string x.f1, .int .i64 x.f2, (.slice D3 x.f3.length e3), v] W) => (⟨(fm_cells hf.k1).2.2.2.2, (fm_cells hf.k3).2.2.2.2, ck0 hf.b g0, ck0 hf.b g1, ck0 hf.b g2, ck0 hf.b g3_, ck0 hf.b g4⟩ : (fun w' => w'.cell? ⟨w.heap.size, 4, none⟩ = some (.slice (some ad) x.f4.length c4) ∧ w'.cell? ⟨g3, 4, none⟩ = some v ∧ w'.cell? (ad.add (i * 5)) = some (.int .i64 x.f4[i].f0) ∧ w'.cell? ⟨(ad.add (i * 5)).block, (ad.add (i * 5)).off + 1, none⟩ = some (.string x.f4[i].f1) ∧ w'.cell? ⟨(ad.add (i * 5)).block, (ad.add (i * 5)).off + 2, none⟩ = some (.int .i64 x.f4[i].f2) ∧ w'.cell? ⟨(ad.add (i * 5)).block, (ad.add (i * 5)).off + 3, none⟩ = some (.slice G3 x.f4[i].f3.length m3) ∧ w'.cell? ⟨(ad.add (i * 5)).block, (ad.add (i * 5)).off + 4, none⟩ = some (.slice G4 x.f4[i].f4.length m4)) W))
        clear hC hk p0 p1 p2 p3 hkt hxt hlen g0 g1 g2 g3_ g4
        go_wp2_with fail
        have HD := Lib.hid (HC.out.later (below_drew (Below.refl _ _)))
        refine start_ (n := 12) (S := fun w' => w'.cell? ⟨w.heap.size, 4, none⟩ = some (.slice (some ad) x.f4.length c4) ∧ w'.cell? ⟨g3, 4, none⟩ = some v ∧ w'.cell? (ad.add (i * 5)) = some (.int .i64 x.f4[i].f0) ∧ w'.cell? ⟨(ad.add (i * 5)).block, (ad.add (i * 5)).off + 1, none⟩ = some (.string x.f4[i].f1) ∧ w'.cell? ⟨(ad.add (i * 5)).block, (ad.add (i * 5)).off + 2, none⟩ = some (.int .i64 x.f4[i].f2) ∧ w'.cell? ⟨(ad.add (i * 5)).block, (ad.add (i * 5)).off + 3, none⟩ = some (.slice G3 x.f4[i].f3.length m3) ∧ w'.cell? ⟨(ad.add (i * 5)).block, (ad.add (i * 5)).off + 4, none⟩ = some (.slice G4 x.f4[i].f4.length m4)) (ds := [11]) #[false, false, false, false, false, false, false, false, false, false, false, false] (by kernel_rfl) rfl rfl (SK.out _ HD.out.fr) (fun hHeld => ?_)
        clear p4
        generalize wr.drew = wd at HD hHeld ⊢
        refine pure_ (i := 0) (N := some 23) (v := ?_) (a' := ?_) #[true, false, false, false, false, false, false, false, false, false, false, false] rfl rfl (by kernel_rfl) (fun _ _ _ h => h) (Or.inl ⟨by rfl, ?_⟩) ?_ ?_
        rotate_left
        · intro w'
          go_simp
          with_reducible rfl
        rotate_left
        · simp only [Act.put, List.setIfInBounds_toArray, List.set_cons_zero, List.set_cons_succ, i64_w, i32_w]
          rfl
        refine pure_ (i := 2) (N := some 25) (v := ?_) (a' := ?_) #[true, false, true, false, false, false, false, false, false, false, false, false] rfl rfl (by kernel_rfl) (fun _ _ _ h => h) (Or.inl ⟨by rfl, ?_⟩) ?_ ?_
        rotate_left
        · intro w'
          go_simp
          with_reducible rfl
        rotate_left
        · simp only [Act.put, List.setIfInBounds_toArray, List.set_cons_zero, List.set_cons_succ, i64_w, i32_w]
          rfl
        refine pure_ (i := 4) (N := some 27) (v := ?_) (a' := ?_) #[true, false, true, false, true, false, false, false, false, false, false, false] rfl rfl (by kernel_rfl) (fun _ _ _ h => h) (Or.inl ⟨by rfl, ?_⟩) ?_ ?_
        rotate_left
        · intro w'
          go_simp
          with_reducible rfl
        rotate_left
        · simp only [Act.put, List.setIfInBounds_toArray, List.set_cons_zero, List.set_cons_succ, i64_w, i32_w]
          rfl
        refine take_ (i := 1) (N := some 24) (v := ?_) (a' := ?_) #[true, true, true, false, true, false, false, false, false, false, false, false] rfl rfl (by kernel_rfl) (fun _ _ _ h => h) (Or.inl ⟨by rfl, ?_⟩) hHeld ?_ ?_
        rotate_left
        · rintro w' ⟨s0, s1, s2, s3, s4, s5, s6⟩
          go_simp
          with_reducible rfl
        rotate_left
        · simp only [Act.put, List.setIfInBounds_toArray, List.set_cons_zero, List.set_cons_succ, i64_w, i32_w]
          rfl
        refine take_ (i := 3) (N := some 26) (v := ?_) (a' := ?_) #[true, true, true, true, true, false, false, false, false, false, false, false] rfl rfl (by kernel_rfl) (fun _ _ _ h => h) (Or.inl ⟨by rfl, ?_⟩) hHeld ?_ ?_
        rotate_left
        · rintro w' ⟨s0, s1, s2, s3, s4, s5, s6⟩
          go_simp
          with_reducible rfl
        rotate_left
        · simp only [Act.put, List.setIfInBounds_toArray, List.set_cons_zero, List.set_cons_succ, i64_w, i32_w]
          rfl
        refine pure_ (i := 5) (N := some 28) (v := ?_) (a' := ?_) #[true, true, true, true, true, true, false, false, false, false, false, false] rfl rfl (by kernel_rfl) (fun _ _ _ h => h) (Or.inl ⟨by rfl, ?_⟩) ?_ ?_
        rotate_left
        · intro w'
          go_simp
          with_reducible rfl
        rotate_left
        · simp only [Act.put, List.setIfInBounds_toArray, List.set_cons_zero, List.set_cons_succ, i64_w, i32_w]
          rfl
        refine take_ (i := 6) (N := some 29) (v := ?_) (a' := ?_) #[true, true, true, true, true, true, true, false, false, false, false, false] rfl rfl (by kernel_rfl) (fun _ _ _ h => h) (Or.inl ⟨by rfl, ?_⟩) hHeld ?_ ?_
        rotate_left
        · rintro w' ⟨s0, s1, s2, s3, s4, s5, s6⟩
          go_simp
          with_reducible rfl
        rotate_left
        · simp only [Act.put, List.setIfInBounds_toArray, List.set_cons_zero, List.set_cons_succ, i64_w, i32_w]
          rfl
        refine one_ (i := 7) (N := some 30) #[true, true, true, true, true, true, true, true, false, false, false, false] rfl rfl (by kernel_rfl) (by decide) (fun K hK => ?_)
        refine goes_ Try.func73 (by kernel_rfl) rfl #[.agg #[.int .i64 x.f4[i].f0, .string x.f4[i].f1, .int .i64 x.f4[i].f2, .slice G3 x.f4[i].f3.length m3, .slice G4 x.f4[i].f4.length m4]] (by rfl) rfl rfl (by (try simp only [List.map_toArray, List.map_cons, List.map_nil]); first | done | rfl) ?_
        refine (IH.out x.f4[i] (List.getElem_mem hlt) G3 m3 G4 m4 wd (HK.out.below HD.out.fr.b) HKT.out).mono ?_
        rintro e w7 ⟨u3, u4, rfl, hn, hb7⟩
        refine ⟨_, rfl, ?_⟩
        obtain ⟨J3, q3, J4, q4, rfl, rfl⟩ : ∃ J3 q3 J4 q4, u3 = .slice J3 (x.f4[i]).f3.length q3 ∧ u4 = .slice J4 (x.f4[i]).f4.length q4 := by
          obtain ⟨fk, hk2, _⟩ := hn
          obtain ⟨J3, q3, J4, q4, e3, e4, _⟩ := hk2.In
          exact ⟨J3, q3, J4, q4, e3, e4⟩
        have H7 := Lib.hid (HD.out.later hb7)
        have HN := Lib.hid hn
        have HLT := Lib.hid (And.intro HD.out.lt HD.out.fr.lt)
        clear hn hb7
        refine hK.out _ _ (SK.out _ H7.out.fr) (fun hHeld => ?_)
        clear hK K
        refine norm_ (a' := ?_) ?_ ?_
        rotate_left
        · show Act.put _ (some 30) _ = _
          simp only [Act.put, List.setIfInBounds_toArray, List.set_cons_zero, List.set_cons_succ, i64_w, i32_w]
          rfl
        refine one_ (i := 8) (N := some 31) #[true, true, true, true, true, true, true, true, true, false, false, false] rfl rfl (by kernel_rfl) (by decide) (fun K hK => ?_)
        refine value_ (w1 := ?_) (v := ?_) (by rfl) rfl ?_ ?_
        rotate_left 2
        · go_simp
          constructor
          · rfl
          · rfl
        refine hK.out _ _ (SK.out _ (H7.out.fr.later (below_new _ _))) (fun hHeld => ?_)
        clear hK K
        refine norm_ (a' := ?_) ?_ ?_
        rotate_left
        · show Act.put _ (some 31) _ = _
          simp only [Act.put, List.setIfInBounds_toArray, List.set_cons_zero, List.set_cons_succ, i64_w, i32_w]
          rfl
        refine one_ (i := 9) (N := some 32) #[true, true, true, true, true, true, true, true, true, true, false, false] rfl rfl (by kernel_rfl) (by decide) (fun K hK => ?_)
        have hl0 : (x.f4.take i).length = i := by simp; omega
        refine step_append_cells (w0 := w) (W := w7) w.heap.size (by rfl) (.tmp 24) (.tmp 31) 27 29 (.agg #[.int .i64 0, .string ⟨#[]⟩, .int .i64 0, .slice none 0 0, .slice none 0 0]) 5 80 rfl Try.underlying27 infoF rfl (by decide) (by omega) v (x.f4.take i).length inner [.int .i64 (x.f4[i]).f0, .string (x.f4[i]).f1, .int .i64 (x.f4[i]).f2, .slice J3 (x.f4[i]).f3.length q3, .slice J4 (x.f4[i]).f4.length q4] rfl rfl rfl (by simp [Value.oneCell']) (own_base_ H7.out.o4 (fun b hb => by have := (H7.out.ge b (by simp [obs_mem, hb])).1; omega)) H7.out.fr.b H7.out.fr.b.size (by have := HLN.out; rw [hl0]; omega) ?_
        intro v' w8 ho hb8 hg8 hat8
        obtain ⟨fp', hC8⟩ := H7.out.more HLT.out.1 HLT.out.2.2 HLT.out.2.1 HN.out (own_weaken ho (Nat.zero_le _)) hg8 hat8
        have hf8 := H7.out.fr.grown hg8 (fun c hc => H7.out.ge c (by simp [obs_mem, hc]))
        have hv' : ∃ A c, v' = .slice A ((x.f4.take i).length + 1) c := by
          rcases ho with ⟨_, ⟨rfl, h0⟩ | ⟨g, cap, cur, rfl, _⟩⟩
          · exact absurd h0 (by omega)
          · exact ⟨_, _, rfl⟩
        rw [hl0] at hv'
        obtain ⟨A', c', rfl⟩ := hv'
        have H8 := Lib.hid hf8
        have HC8 := Lib.hid hC8
        clear ho hb8 hg8 hat8 hf8 hC8
        refine hK.out _ _ (SK.out _ H8.out) (fun hHeld => ?_)
        clear hK K
        refine norm_ (a' := ?_) ?_ ?_
        rotate_left
        · show Act.put _ (some 32) _ = _
          simp only [Act.put, List.setIfInBounds_toArray, List.set_cons_zero, List.set_cons_succ, i64_w, i32_w]
          rfl
        refine pure_ (i := 10) (N := some 33) (v := ?_) (a' := ?_) #[true, true, true, true, true, true, true, true, true, true, true, false] rfl rfl (by kernel_rfl) (fun _ _ _ h => h) (Or.inl ⟨by rfl, ?_⟩) ?_ ?_
        rotate_left
        · intro w'
          go_simp
          with_reducible rfl
        rotate_left
        · simp only [Act.put, List.setIfInBounds_toArray, List.set_cons_zero, List.set_cons_succ, i64_w, i32_w]
          rfl
        refine last_ (i := 11) (N := none) #[true, true, true, true, true, true, true, true, true, true, true, true] rfl rfl (by kernel_rfl) (by decide) (fun K hK => ?_)
        have z4 := (fm_cells H8.out.k3).2.2.2.2
        have f4 := (fm_free H8.out.k3).2.2.2.2
        refine skip_ (w1 := ?_) (by rfl) rfl ?_ ?_
        rotate_left
        · go_simp
          rfl
        refine hK.out _ _ ?_
        clear hK K z4 f4
        refine done_ (by kernel_rfl) ?_
        have HX := Lib.hid (show x.f4.take i ++ [x.f4[i]] = x.f4.take (i + 1) from (List.take_succ_eq_append_getElem hlt).symm)
        rw [HX.out] at HC8
        try go_wp2
        go_roundg (x.f4.length - (i + 1))
        case measure => omega
        case rel => exact ⟨i + 1, by omega, Nat.le_refl _, by go_num, ⟨⟨_, _, _, HC8.out⟩⟩⟩
      · obtain rfl : i = x.f4.length := by omega
        obtain ⟨v, inner, fp, hC⟩ := HO.out
        rw [List.take_length] at hC
        obtain ⟨A4', c4', e4', -, -⟩ := hC.tr.C hC.o4
        subst e4'
        obtain ⟨p0, p1, p2, p3, p4⟩ := fm_cells hC.fr.k3
        obtain ⟨y0, y1, y2, y3, y4⟩ := fm_cells hC.fr.k1
        obtain ⟨z0, z1, z2, z3, z4⟩ := fm_cells hC.fr.k2
        obtain ⟨f0, f1, f2, f3, f4⟩ := fm_free hC.fr.k2
        have hn1 : g3 ≠ w.heap.size + 1 := by have := hC.fr.h3; omega
        have hn2 : w.heap.size + 1 ≠ g3 := fun e => hn1 e.symm
        obtain ⟨st1, st2, st3⟩ := st5 hC.fr.k2 (.int .i64 x.f0) (.string x.f1) (.int .i64 x.f2) (.slice D3 x.f3.length e3) (.slice A4' x.f4.length c4')
        have HNF := hC.newF (st2)
        rw [show (⟨x.f0, x.f1, x.f2, x.f3, x.f4⟩ : Fm) = x from by cases x; rfl] at HNF
        have HN := Lib.hid HNF
        have HB := Lib.hid (st3 _ _ hC.fr.b (by omega))
        clear hC HO st1 st2 st3 HNF
        go_wp2_with fail
        refine bodyPost_ret (v := .agg #[.int .i64 x.f0, .string x.f1, .int .i64 x.f2, (.slice D3 x.f3.length e3), .slice A4' x.f4.length c4']) (by simp [results, Try.results73, go_sem, z0, z1, z2, z3, z4]) rfl ?_
        exact ⟨_, _, rfl, HN.out, HB.out⟩
set_option maxHeartbeats 4000000 in
set_option maxRecDepth 100000 in
theorem copyForm_any : ∀ x : Fm, ∀ (A3 : Option Addr) (c3 : Nat) (A4 : Option Addr) (c4 : Nat) (w : World), FmIn w x A3 c3 A4 c4 → x.tot ≤ 1000000000 →
    Calls Try.prog 120 #[.agg #[.int .i64 x.f0, .string x.f1, .int .i64 x.f2, .slice A3 x.f3.length c3, .slice A4 x.f4.length c4]] w (RetF w x) := by
  intro x
  induction x using Fm.ind with
  | h x ih =>
    intro A3 c3 A4 c4 w hin ht
    have hmax := hin.g4.2.1
    have HI := Lib.hid hin
    have HT := Lib.hid ht
    have IH := Lib.hid ih
    clear hin ht ih
    go_enter Try.func120, Try.ntmps120
    go_wp2_with fail
    obtain ⟨kb1, kb2, hb0⟩ := two_new (w := w) (O1 := (.cells #[.int .i64 x.f0, .string x.f1, .int .i64 x.f2, .slice A3 x.f3.length c3, .slice A4 x.f4.length c4] 29)) (O2 := (.cells #[.int .i64 0, .string ⟨#[]⟩, .int .i64 0, .slice none 0 0, .slice none 0 0] 29)) (Below.refl _ _).drew
    obtain ⟨p0, p1, p2, p3, p4⟩ := fm_cells kb1
    refine start_ (n := 12) (S := fun w' => w'.cell? ⟨w.heap.size, 0, none⟩ = some (.int .i64 x.f0) ∧ w'.cell? ⟨w.heap.size, 1, none⟩ = some (.string x.f1) ∧ w'.cell? ⟨w.heap.size, 2, none⟩ = some (.int .i64 x.f2) ∧ w'.cell? ⟨w.heap.size, 3, none⟩ = some (.slice A3 x.f3.length c3)) (ds := []) #[false, false, false, false, false, false, false, false, false, false, false, false] (by kernel_rfl) rfl rfl ⟨p0, p1, p2, p3⟩ (fun hHeld => ?_)
    have hsz : w.heap.size + 2 ≤ (((w.alloc (.cells #[.int .i64 x.f0, .string x.f1, .int .i64 x.f2, .slice A3 x.f3.length c3, .slice A4 x.f4.length c4] 29)).alloc (.cells #[.int .i64 0, .string ⟨#[]⟩, .int .i64 0, .slice none 0 0, .slice none 0 0] 29)).drew).heap.size := by simp
    generalize World.drew _ = w5 at kb1 kb2 hb0 hsz p0 p1 p2 p3 p4 hHeld ⊢
    have P0 := Lib.hid p0
    have P1 := Lib.hid p1
    have P2 := Lib.hid p2
    have P3 := Lib.hid p3
    have KB1 := Lib.hid kb1
    have KB2 := Lib.hid kb2
    have HB0 := Lib.hid hb0
    have HSZ := Lib.hid hsz
    clear p0 p1 p2 p3 p4 kb1 kb2 hb0 hsz
    refine pure_ (i := 0) (N := some 6) (v := ?_) (a' := ?_) #[true, false, false, false, false, false, false, false, false, false, false, false] rfl rfl (by kernel_rfl) (fun _ _ _ h => h) (Or.inl ⟨by rfl, ?_⟩) ?_ ?_
    rotate_left
    · intro w'
      go_simp
      with_reducible rfl
    rotate_left
    · simp only [Act.put, List.setIfInBounds_toArray, List.set_cons_zero, List.set_cons_succ, i64_w, i32_w]
      rfl
    refine pure_ (i := 2) (N := some 8) (v := ?_) (a' := ?_) #[true, false, true, false, false, false, false, false, false, false, false, false] rfl rfl (by kernel_rfl) (fun _ _ _ h => h) (Or.inl ⟨by rfl, ?_⟩) ?_ ?_
    rotate_left
    · intro w'
      go_simp
      with_reducible rfl
    rotate_left
    · simp only [Act.put, List.setIfInBounds_toArray, List.set_cons_zero, List.set_cons_succ, i64_w, i32_w]
      rfl
    refine pure_ (i := 4) (N := some 10) (v := ?_) (a' := ?_) #[true, false, true, false, true, false, false, false, false, false, false, false] rfl rfl (by kernel_rfl) (fun _ _ _ h => h) (Or.inl ⟨by rfl, ?_⟩) ?_ ?_
    rotate_left
    · intro w'
      go_simp
      with_reducible rfl
    rotate_left
    · simp only [Act.put, List.setIfInBounds_toArray, List.set_cons_zero, List.set_cons_succ, i64_w, i32_w]
      rfl
    refine pure_ (i := 6) (N := some 12) (v := ?_) (a' := ?_) #[true, false, true, false, true, false, true, false, false, false, false, false] rfl rfl (by kernel_rfl) (fun _ _ _ h => h) (Or.inl ⟨by rfl, ?_⟩) ?_ ?_
    rotate_left
    · intro w'
      go_simp
      with_reducible rfl
    rotate_left
    · simp only [Act.put, List.setIfInBounds_toArray, List.set_cons_zero, List.set_cons_succ, i64_w, i32_w]
      rfl
    refine take_ (i := 1) (N := some 7) (v := ?_) (a' := ?_) #[true, true, true, false, true, false, true, false, false, false, false, false] rfl rfl (by kernel_rfl) (fun _ _ _ h => h) (Or.inl ⟨by rfl, ?_⟩) hHeld ?_ ?_
    rotate_left
    · rintro w' ⟨s0, s1, s2, s3⟩
      go_simp
      with_reducible rfl
    rotate_left
    · simp only [Act.put, List.setIfInBounds_toArray, List.set_cons_zero, List.set_cons_succ, i64_w, i32_w]
      rfl
    refine take_ (i := 3) (N := some 9) (v := ?_) (a' := ?_) #[true, true, true, true, true, false, true, false, false, false, false, false] rfl rfl (by kernel_rfl) (fun _ _ _ h => h) (Or.inl ⟨by rfl, ?_⟩) hHeld ?_ ?_
    rotate_left
    · rintro w' ⟨s0, s1, s2, s3⟩
      go_simp
      with_reducible rfl
    rotate_left
    · simp only [Act.put, List.setIfInBounds_toArray, List.set_cons_zero, List.set_cons_succ, i64_w, i32_w]
      rfl
    refine take_ (i := 5) (N := some 11) (v := ?_) (a' := ?_) #[true, true, true, true, true, true, true, false, false, false, false, false] rfl rfl (by kernel_rfl) (fun _ _ _ h => h) (Or.inl ⟨by rfl, ?_⟩) hHeld ?_ ?_
    rotate_left
    · rintro w' ⟨s0, s1, s2, s3⟩
      go_simp
      with_reducible rfl
    rotate_left
    · simp only [Act.put, List.setIfInBounds_toArray, List.set_cons_zero, List.set_cons_succ, i64_w, i32_w]
      rfl
    refine take_ (i := 7) (N := some 13) (v := ?_) (a' := ?_) #[true, true, true, true, true, true, true, true, false, false, false, false] rfl rfl (by kernel_rfl) (fun _ _ _ h => h) (Or.inl ⟨by rfl, ?_⟩) hHeld ?_ ?_
    rotate_left
    · rintro w' ⟨s0, s1, s2, s3⟩
      go_simp
      with_reducible rfl
    rotate_left
    · simp only [Act.put, List.setIfInBounds_toArray, List.set_cons_zero, List.set_cons_succ, i64_w, i32_w]
      rfl
    refine join_ (σ := Value × Nat) 1 #[true, true, true, true, true, true, true, true, true, true, true, false] (fun s_ => [(14, s_.1), (3, .pointer (some ⟨s_.2, 0, none⟩)), (15, .agg #[.int .i64 x.f0, .string x.f1, .int .i64 x.f2, s_.1, .slice none 0 0])]) (fun s_ w' => Below w5.heap.size w5 w' ∧ kI.R 3 w' w5.heap.size (fun _ => True) s_.1 x.f3 ∧ w'.heap[s_.2]? = some (.cells #[.int .i64 0, .string ⟨#[]⟩, .int .i64 0, .slice none 0 0, .slice none 0 0] 29) ∧ w5.heap.size ≤ s_.2) ?_ ?_
    rotate_left
    · intro hCont
      refine two_ (i := 8) (j := 10) (Ni := some 14) (Nj := some 3) #[true, true, true, true, true, true, true, true, true, false, false, false] #[true, true, true, true, true, true, true, true, false, false, true, false] rfl rfl rfl rfl (by kernel_rfl) (by decide) (by decide) (fun K hK => ?_) (fun K hK => ?_)
      · refine goes_ Try.func121 (by kernel_rfl) rfl #[.slice A3 x.f3.length c3] (by rfl) rfl rfl (by (try simp only [List.map_toArray, List.map_cons, List.map_nil]); first | done | rfl) ?_
        refine (cloneI_any x.f3 A3 c3 w5 (Kd.C_below HI.out.g3 (below_step HB0.out (Below.refl _ _))) HI.out.l3 (by have := HT.out; have := scTot x; omega)).mono ?_
        rintro e w6 ⟨v3, rfl, ho3, hb6⟩
        refine ⟨_, rfl, ?_⟩
        obtain ⟨D3, e3, rfl⟩ := Kd.R_slice ho3
        refine hK.out _ _ ⟨ck0 hb6 P0.out, ck0 hb6 P1.out, ck0 hb6 P2.out, ck0 hb6 P3.out⟩ (fun hHeld => ?_)
        clear hK K
        refine norm_ (a' := ?_) ?_ ?_
        rotate_left
        · show Act.put _ (some 14) _ = _
          simp only [Act.put, List.setIfInBounds_toArray, List.set_cons_zero, List.set_cons_succ, i64_w, i32_w]
          rfl
        refine pure_ (i := 9) (N := some 15) (v := ?_) (a' := ?_) #[true, true, true, true, true, true, true, true, true, true, false, false] rfl rfl (by kernel_rfl) (fun _ _ _ h => h) (Or.inl ⟨by rfl, ?_⟩) ?_ ?_
        rotate_left
        · intro w'
          go_simp
          with_reducible rfl
        rotate_left
        · simp only [Act.put, List.setIfInBounds_toArray, List.set_cons_zero, List.set_cons_succ, i64_w, i32_w]
          rfl
        refine one_ (i := 10) (N := some 3) #[true, true, true, true, true, true, true, true, true, true, true, false] rfl rfl (by kernel_rfl) (by decide) (fun K hK => ?_)
        refine box_step ?hg (N := 3) ?hd (cs := #[.int .i64 0, .string ⟨#[]⟩, .int .i64 0, .slice none 0 0, .slice none 0 0]) (t := 29) ?hr ?_; (case hd => rfl); (case hg => rfl); (case hr => first | (go_simp; done) | (go_simp; rfl))
        intro g3 hg w7 hbox hb7
        have hb8 := below_step hb6 hb7
        refine hK.out _ _ ⟨ck0 hb8 P0.out, ck0 hb8 P1.out, ck0 hb8 P2.out, ck0 hb8 P3.out⟩ (fun hHeld => ?_)
        clear hK K
        refine norm_ (a' := ?_) ?_ ?_
        rotate_left
        · show Act.put _ (some 3) _ = _
          simp only [Act.put, List.setIfInBounds_toArray, List.set_cons_zero, List.set_cons_succ, i64_w, i32_w]
          rfl
        exact norm_ (by simp only [putAll, Act.put, List.setIfInBounds_toArray, List.set_cons_zero, List.set_cons_succ]) (hCont (.slice D3 x.f3.length e3, g3) _ ⟨hb8, Kd.R_below ho3 hb7, hbox, hg ▸ hb6.size⟩)
      · refine box_step ?hg (N := 3) ?hd (cs := #[.int .i64 0, .string ⟨#[]⟩, .int .i64 0, .slice none 0 0, .slice none 0 0]) (t := 29) ?hr ?_; (case hd => rfl); (case hg => rfl); (case hr => first | (go_simp; done) | (go_simp; rfl))
        intro g3 hg w6 hbox hb6
        refine hK.out _ _ ⟨ck0 hb6 P0.out, ck0 hb6 P1.out, ck0 hb6 P2.out, ck0 hb6 P3.out⟩ (fun hHeld => ?_)
        clear hK K
        refine norm_ (a' := ?_) ?_ ?_
        rotate_left
        · show Act.put _ (some 3) _ = _
          simp only [Act.put, List.setIfInBounds_toArray, List.set_cons_zero, List.set_cons_succ, i64_w, i32_w]
          rfl
        refine one_ (i := 8) (N := some 14) #[true, true, true, true, true, true, true, true, true, false, true, false] rfl rfl (by kernel_rfl) (by decide) (fun K hK => ?_)
        refine goes_ Try.func121 (by kernel_rfl) rfl #[.slice A3 x.f3.length c3] (by rfl) rfl rfl (by (try simp only [List.map_toArray, List.map_cons, List.map_nil]); first | done | rfl) ?_
        refine (cloneI_any x.f3 A3 c3 w6 (Kd.C_below HI.out.g3 (below_step HB0.out hb6)) HI.out.l3 (by have := HT.out; have := scTot x; omega)).mono ?_
        rintro e w7 ⟨v3, rfl, ho3, hb7⟩
        refine ⟨_, rfl, ?_⟩
        obtain ⟨D3, e3, rfl⟩ := Kd.R_slice ho3
        have hb8 := below_step hb6 hb7
        refine hK.out _ _ ⟨ck0 hb8 P0.out, ck0 hb8 P1.out, ck0 hb8 P2.out, ck0 hb8 P3.out⟩ (fun hHeld => ?_)
        clear hK K
        refine norm_ (a' := ?_) ?_ ?_
        rotate_left
        · show Act.put _ (some 14) _ = _
          simp only [Act.put, List.setIfInBounds_toArray, List.set_cons_zero, List.set_cons_succ, i64_w, i32_w]
          rfl
        refine pure_ (i := 9) (N := some 15) (v := ?_) (a' := ?_) #[true, true, true, true, true, true, true, true, true, true, true, false] rfl rfl (by kernel_rfl) (fun _ _ _ h => h) (Or.inl ⟨by rfl, ?_⟩) ?_ ?_
        rotate_left
        · intro w'
          go_simp
          with_reducible rfl
        rotate_left
        · simp only [Act.put, List.setIfInBounds_toArray, List.set_cons_zero, List.set_cons_succ, i64_w, i32_w]
          rfl
        exact norm_ (by simp only [putAll, Act.put, List.setIfInBounds_toArray, List.set_cons_zero, List.set_cons_succ]) (hCont (.slice D3 x.f3.length e3, g3) _ ⟨hb8, Kd.R_lower ho3 hb6.size, blk_below hbox hb7, Nat.le_of_eq hg.symm⟩)
    rintro ⟨v3, g3⟩ wz ⟨hbz, ho3, hbox, hg3⟩
    dsimp only at ho3 hbox hg3
    have hHeld : True := trivial
    refine norm_ (a' := ?_) ?_ ?_
    rotate_left
    · simp only [putAll, Act.put, List.setIfInBounds_toArray, List.set_cons_zero, List.set_cons_succ]
      rfl
    have K1z := blk_below KB1.out hbz
    have hl1 := blk_lt KB1.out
    have hne3 := Kd.R_ne ho3 hbox (by decide)
    obtain ⟨D3, e3, rfl⟩ := Kd.R_slice ho3
    obtain ⟨st1, st2, st3⟩ := st5 hbox (.int .i64 x.f0) (.string x.f1) (.int .i64 x.f2) (.slice D3 x.f3.length e3) (.slice none 0 0)
    have hS5 := fm_cells ((st2 w.heap.size (by omega)).trans K1z)
    have HCP := Lib.hid (Cp.start (w := w) KB1.out KB2.out HB0.out HSZ.out hbz ho3 hg3 hne3 st1 st2 (st3 _ _ hbz hg3))
    obtain ⟨z0, z1, z2, z3, z4⟩ := fm_cells hbox
    obtain ⟨f0, f1, f2, f3, f4⟩ := fm_free hbox
    clear hbz ho3 hbox hg3 K1z hl1 hne3 st1 st2 st3 KB1 KB2 HB0 HSZ P0 P1 P2 P3
    refine one_ (i := 11) (N := none) #[true, true, true, true, true, true, true, true, true, true, true, true] rfl rfl (by kernel_rfl) (by decide) (fun K hK => ?_)
    refine skip_ (w1 := ?_) (by rfl) rfl ?_ ?_
    rotate_left
    · go_simp
      rfl
    refine hK.out _ _ ⟨hS5.1, hS5.2.1, hS5.2.2.1, hS5.2.2.2.1⟩ (fun hHeld => ?_)
    clear hK K z0 z1 z2 z3 z4 f0 f1 f2 f3 f4 hS5
    refine done_ (by kernel_rfl) ?_
    obtain ⟨l0, l1, l2, l3, l4⟩ := fm_cells HCP.out.fr.k1
    try go_wp2_with fail
    clear l0 l1 l2 l3 l4
    go_loopg [5, 19] x.f4.length (fun kq v5 v4 w' => ∃ i : Nat, i ≤ x.f4.length ∧ x.f4.length - i ≤ kq ∧ v4 = .int .i64 i ∧ Aside0 (∃ v inner fp, Cp w (.cells #[.int .i64 x.f0, .string x.f1, .int .i64 x.f2, .slice A3 x.f3.length c3, .slice A4 x.f4.length c4] 29) (.cells #[.int .i64 0, .string ⟨#[]⟩, .int .i64 0, .slice none 0 0, .slice none 0 0] 29) g3 x.f0 x.f1 x.f2 x.f3 (x.f4.take i) (.slice D3 x.f3.length e3) v inner fp w'))
    case atStart => exact ⟨0, Nat.zero_le _, by omega, rfl, ⟨⟨.slice none 0 0, [], [], by simpa using HCP.out⟩⟩⟩
    case round =>
      obtain ⟨i, hi, hg, rfl, HO⟩ := hrel
      by_cases hlt : i < x.f4.length
      · obtain ⟨v, inner, fp, hC⟩ := HO.out
        obtain ⟨ad, G3, m3, G4, m4, e, g0, g1, g2, g3_, g4, hk⟩ := kid_at HI.out.g4 i hlt
        subst e
        replace g0 := ck0 hC.fr.b g0
        replace g1 := ck0 hC.fr.b g1
        replace g2 := ck0 hC.fr.b g2
        replace g3_ := ck0 hC.fr.b g3_
        replace g4 := ck0 hC.fr.b g4
        have hkt := totL_mem (List.getElem_mem hlt)
        have hxt := HT.out
        rw [Fm.tot_eq] at hxt
        have r1 : (0 : Int) ≤ (i : Int) := by omega
        have r2 : (i : Int) < (x.f4.length : Int) := by omega
        have hlen := len_totL x.f4
        have HKT := Lib.hid (show x.f4[i].tot ≤ 1000000000 by omega)
        have HLN := Lib.hid (show x.f4.length ≤ 1000000000 by omega)
        have HK := Lib.hid hk
        have HC := Lib.hid hC
        have SK := Lib.hid (fun (W : World) (hf : Fr w (.cells #[.int .i64 x.f0, .string x.f1, .int .i64 x.f2, .slice A3 x.f3.length c3, .slice (some ad) x.f4.length c4] 29) (.cells #[.int .i64 0, .string ⟨#[]⟩, .int .i64 0, .slice none 0 0, .slice none 0 0] 29) g3 #[.int .i64 x.f0, .string x.f1, .int .i64 x.f2, (.slice D3 x.f3.length e3), v] W) (hk : W.heap[wr.heap.size]? = some (.cells #[.int .i64 x.f4[i].f0, .string x.f4[i].f1, .int .i64 x.f4[i].f2, .slice G3 x.f4[i].f3.length m3, .slice G4 x.f4[i].f4.length m4] 29)) => (⟨(fm_cells hf.k3).2.2.2.2, (fm_cells hk).1, (fm_cells hk).2.1, (fm_cells hk).2.2.1, (fm_cells hk).2.2.2.1, (fm_cells hk).2.2.2.2⟩ : (fun w' => w'.cell? ⟨g3, 4, none⟩ = some v ∧ w'.cell? ⟨wr.heap.size, 0, none⟩ = some (.int .i64 x.f4[i].f0) ∧ w'.cell? ⟨wr.heap.size, 1, none⟩ = some (.string x.f4[i].f1) ∧ w'.cell? ⟨wr.heap.size, 2, none⟩ = some (.int .i64 x.f4[i].f2) ∧ w'.cell? ⟨wr.heap.size, 3, none⟩ = some (.slice G3 x.f4[i].f3.length m3) ∧ w'.cell? ⟨wr.heap.size, 4, none⟩ = some (.slice G4 x.f4[i].f4.length m4)) W))
        have hvl : ∀ b, v.ownBlock = some b → b ≠ wr.heap.size := fun b hb => by have := hC.lt b (by simp [obs_mem, hb]); omega
        have HVL := Lib.hid hvl
        clear hC hk hkt hxt hlen hvl
        go_wp2_with fail
        clear g0 g1 g2 g3_ g4
        have HD := Lib.hid ((HC.out.later (below_new _ (.cells #[.int .i64 x.f4[i].f0, .string x.f4[i].f1, .int .i64 x.f4[i].f2, .slice G3 x.f4[i].f3.length m3, .slice G4 x.f4[i].f4.length m4] 29))).later (below_drew (Below.refl _ _)))
        have KD := Lib.hid (blk_drew (blk_new wr (.cells #[.int .i64 x.f4[i].f0, .string x.f4[i].f1, .int .i64 x.f4[i].f2, .slice G3 x.f4[i].f3.length m3, .slice G4 x.f4[i].f4.length m4] 29)))
        refine start_ (n := 8) (S := fun w' => w'.cell? ⟨g3, 4, none⟩ = some v ∧ w'.cell? ⟨wr.heap.size, 0, none⟩ = some (.int .i64 x.f4[i].f0) ∧ w'.cell? ⟨wr.heap.size, 1, none⟩ = some (.string x.f4[i].f1) ∧ w'.cell? ⟨wr.heap.size, 2, none⟩ = some (.int .i64 x.f4[i].f2) ∧ w'.cell? ⟨wr.heap.size, 3, none⟩ = some (.slice G3 x.f4[i].f3.length m3) ∧ w'.cell? ⟨wr.heap.size, 4, none⟩ = some (.slice G4 x.f4[i].f4.length m4)) (ds := [7]) #[false, false, false, false, false, false, false, false] (by kernel_rfl) rfl rfl (SK.out _ HD.out.fr KD.out) (fun hHeld => ?_)
        generalize World.drew _ = wd at HD KD hHeld ⊢
        refine pure_ (i := 0) (N := some 23) (v := ?_) (a' := ?_) #[true, false, false, false, false, false, false, false] rfl rfl (by kernel_rfl) (fun _ _ _ h => h) (Or.inl ⟨by rfl, ?_⟩) ?_ ?_
        rotate_left
        · intro w'
          go_simp
          with_reducible rfl
        rotate_left
        · simp only [Act.put, List.setIfInBounds_toArray, List.set_cons_zero, List.set_cons_succ, i64_w, i32_w]
          rfl
        refine take_ (i := 1) (N := some 24) (v := ?_) (a' := ?_) #[true, true, false, false, false, false, false, false] rfl rfl (by kernel_rfl) (fun _ _ _ h => h) (Or.inl ⟨by rfl, ?_⟩) hHeld ?_ ?_
        rotate_left
        · rintro w' ⟨s0, s1, s2, s3, s4, s5⟩
          go_simp
          with_reducible rfl
        rotate_left
        · simp only [Act.put, List.setIfInBounds_toArray, List.set_cons_zero, List.set_cons_succ, i64_w, i32_w]
          rfl
        refine take_ (i := 2) (N := some 25) (v := ?_) (a' := ?_) #[true, true, true, false, false, false, false, false] rfl rfl (by kernel_rfl) (fun _ _ _ h => h) (Or.inl ⟨by rfl, ?_⟩) hHeld ?_ ?_
        rotate_left
        · rintro w' ⟨s0, s1, s2, s3, s4, s5⟩
          go_simp
          with_reducible rfl
        rotate_left
        · simp only [Act.put, List.setIfInBounds_toArray, List.set_cons_zero, List.set_cons_succ, i64_w, i32_w]
          rfl
        refine one_ (i := 3) (N := some 26) #[true, true, true, true, false, false, false, false] rfl rfl (by kernel_rfl) (by decide) (fun K hK => ?_)
        refine goes_ Try.func120 (by kernel_rfl) rfl #[.agg #[.int .i64 x.f4[i].f0, .string x.f4[i].f1, .int .i64 x.f4[i].f2, .slice G3 x.f4[i].f3.length m3, .slice G4 x.f4[i].f4.length m4]] (by rfl) rfl rfl (by (try simp only [List.map_toArray, List.map_cons, List.map_nil]); first | done | rfl) ?_
        refine (IH.out x.f4[i] (List.getElem_mem hlt) G3 m3 G4 m4 wd (HK.out.below HD.out.fr.b) HKT.out).mono ?_
        rintro e w7 ⟨u3, u4, rfl, hn, hb7⟩
        refine ⟨_, rfl, ?_⟩
        obtain ⟨J3, q3, J4, q4, rfl, rfl⟩ : ∃ J3 q3 J4 q4, u3 = .slice J3 (x.f4[i]).f3.length q3 ∧ u4 = .slice J4 (x.f4[i]).f4.length q4 := by
          obtain ⟨fk, hk2, _⟩ := hn
          obtain ⟨J3, q3, J4, q4, e3, e4, _⟩ := hk2.In
          exact ⟨J3, q3, J4, q4, e3, e4⟩
        have H7 := Lib.hid (HD.out.later hb7)
        have HN := Lib.hid hn
        have HLT := Lib.hid (And.intro HD.out.lt HD.out.fr.lt)
        have K7 := Lib.hid (blk_below KD.out hb7)
        clear hn hb7
        refine hK.out _ _ (SK.out _ H7.out.fr K7.out) (fun hHeld => ?_)
        clear hK K
        refine norm_ (a' := ?_) ?_ ?_
        rotate_left
        · show Act.put _ (some 26) _ = _
          simp only [Act.put, List.setIfInBounds_toArray, List.set_cons_zero, List.set_cons_succ, i64_w, i32_w]
          rfl
        refine one_ (i := 4) (N := some 27) #[true, true, true, true, true, false, false, false] rfl rfl (by kernel_rfl) (by decide) (fun K hK => ?_)
        refine value_ (w1 := ?_) (v := ?_) (by rfl) rfl ?_ ?_
        rotate_left 2
        · go_simp
          constructor
          · rfl
          · rfl
        refine hK.out _ _ (SK.out _ (H7.out.fr.later (below_new _ _)) (blk_alloc K7.out _)) (fun hHeld => ?_)
        clear hK K
        refine norm_ (a' := ?_) ?_ ?_
        rotate_left
        · show Act.put _ (some 27) _ = _
          simp only [Act.put, List.setIfInBounds_toArray, List.set_cons_zero, List.set_cons_succ, i64_w, i32_w]
          rfl
        refine one_ (i := 5) (N := some 28) #[true, true, true, true, true, true, false, false] rfl rfl (by kernel_rfl) (by decide) (fun K hK => ?_)
        have hl0 : (x.f4.take i).length = i := by simp; omega
        refine step_append_cells (w0 := w) (W := w7) w.heap.size (by rfl) (.tmp 24) (.tmp 27) 27 29 (.agg #[.int .i64 0, .string ⟨#[]⟩, .int .i64 0, .slice none 0 0, .slice none 0 0]) 5 80 rfl Try.underlying27 infoF rfl (by decide) (by omega) v (x.f4.take i).length inner [.int .i64 (x.f4[i]).f0, .string (x.f4[i]).f1, .int .i64 (x.f4[i]).f2, .slice J3 (x.f4[i]).f3.length q3, .slice J4 (x.f4[i]).f4.length q4] rfl rfl rfl (by simp [Value.oneCell']) (own_base_ H7.out.o4 (fun b hb => by have := (H7.out.ge b (by simp [obs_mem, hb])).1; omega)) H7.out.fr.b H7.out.fr.b.size (by have := HLN.out; rw [hl0]; omega) ?_
        intro v' w8 ho hb8 hg8 hat8
        obtain ⟨fp', hC8⟩ := H7.out.more HLT.out.1 HLT.out.2.2 HLT.out.2.1 HN.out (own_weaken ho (Nat.zero_le _)) hg8 hat8
        have hf8 := H7.out.fr.grown hg8 (fun c hc => H7.out.ge c (by simp [obs_mem, hc]))
        have hv' : ∃ A c, v' = .slice A ((x.f4.take i).length + 1) c := by
          rcases ho with ⟨_, ⟨rfl, h0⟩ | ⟨g, cap, cur, rfl, _⟩⟩
          · exact absurd h0 (by omega)
          · exact ⟨_, _, rfl⟩
        rw [hl0] at hv'
        obtain ⟨A', c', rfl⟩ := hv'
        have K8 := Lib.hid (blk_grown K7.out hg8 (fun e => HVL.out _ e.symm rfl))
        have H8 := Lib.hid hf8
        have HC8 := Lib.hid hC8
        clear ho hb8 hg8 hat8 hf8 hC8
        refine hK.out _ _ (SK.out _ H8.out K8.out) (fun hHeld => ?_)
        clear hK K
        refine norm_ (a' := ?_) ?_ ?_
        rotate_left
        · show Act.put _ (some 28) _ = _
          simp only [Act.put, List.setIfInBounds_toArray, List.set_cons_zero, List.set_cons_succ, i64_w, i32_w]
          rfl
        refine pure_ (i := 6) (N := some 29) (v := ?_) (a' := ?_) #[true, true, true, true, true, true, true, false] rfl rfl (by kernel_rfl) (fun _ _ _ h => h) (Or.inl ⟨by rfl, ?_⟩) ?_ ?_
        rotate_left
        · intro w'
          go_simp
          with_reducible rfl
        rotate_left
        · simp only [Act.put, List.setIfInBounds_toArray, List.set_cons_zero, List.set_cons_succ, i64_w, i32_w]
          rfl
        refine last_ (i := 7) (N := none) #[true, true, true, true, true, true, true, true] rfl rfl (by kernel_rfl) (by decide) (fun K hK => ?_)
        have z4 := (fm_cells H8.out.k3).2.2.2.2
        have f4 := (fm_free H8.out.k3).2.2.2.2
        refine skip_ (w1 := ?_) (by rfl) rfl ?_ ?_
        rotate_left
        · go_simp
          rfl
        refine hK.out _ _ ?_
        clear hK K z4 f4
        refine done_ (by kernel_rfl) ?_
        have HX := Lib.hid (show x.f4.take i ++ [x.f4[i]] = x.f4.take (i + 1) from (List.take_succ_eq_append_getElem hlt).symm)
        rw [HX.out] at HC8
        try go_wp2
        go_roundg (x.f4.length - (i + 1))
        case measure => omega
        case rel => exact ⟨i + 1, by omega, Nat.le_refl _, by go_num, ⟨⟨_, _, _, HC8.out⟩⟩⟩
      · obtain rfl : i = x.f4.length := by omega
        obtain ⟨v, inner, fp, hC⟩ := HO.out
        rw [List.take_length] at hC
        obtain ⟨A4', c4', e4', -, -⟩ := hC.tr.C hC.o4
        subst e4'
        obtain ⟨p0, p1, p2, p3, p4⟩ := fm_cells hC.fr.k3
        obtain ⟨y0, y1, y2, y3, y4⟩ := fm_cells hC.fr.k1
        obtain ⟨z0, z1, z2, z3, z4⟩ := fm_cells hC.fr.k2
        obtain ⟨f0, f1, f2, f3, f4⟩ := fm_free hC.fr.k2
        have hn1 : g3 ≠ w.heap.size + 1 := by have := hC.fr.h3; omega
        have hn2 : w.heap.size + 1 ≠ g3 := fun e => hn1 e.symm
        obtain ⟨st1, st2, st3⟩ := st5 hC.fr.k2 (.int .i64 x.f0) (.string x.f1) (.int .i64 x.f2) (.slice D3 x.f3.length e3) (.slice A4' x.f4.length c4')
        have HNF := hC.newF (st2)
        rw [show (⟨x.f0, x.f1, x.f2, x.f3, x.f4⟩ : Fm) = x from by cases x; rfl] at HNF
        have HN := Lib.hid HNF
        have HB := Lib.hid (st3 _ _ hC.fr.b (by omega))
        clear hC HO st1 st2 st3 HNF
        go_wp2_with fail
        refine bodyPost_ret (v := .agg #[.int .i64 x.f0, .string x.f1, .int .i64 x.f2, (.slice D3 x.f3.length e3), .slice A4' x.f4.length c4']) (by simp [results, Try.results120, go_sem, z0, z1, z2, z3, z4]) rfl ?_
        exact ⟨_, _, rfl, HN.out, HB.out⟩
end Go.Proofs.Ytnaefjilcabkoaa
end
section
namespace Go.Proofs.Ytnaefjilcabkoaa
open Go.RowKit Go.Proofs.YtnaefjilcabkoaaW.PrintWords Go.Proofs.YtnaefjilcabkoaaW.PrintLast Go.Proofs.YtnaefjilcabkoaaW.PrintMore
set_option linter.unusedVariables false
set_option linter.unusedSimpArgs false
/-- What a cut from the front keeps: zeros behind it do not matter. -/
theorem own_zeroed {e g cap base : Nat} : ∀ (vs : List Value) (o : Nat) (w : World) (m : Nat) (inner : List Value), w.ownsRow base e 1 (.slice (some ⟨g, 0, none⟩) m cap) m inner → m ≤ o → (w.setCells g o vs).ownsRow base e 1 (.slice (some ⟨g, 0, none⟩) m cap) m inner
  | [], _, _, _, _, h, _ => h
  | u :: r, o, w, m, inner, h, ho => by
    rw [World.setCells]
    refine own_zeroed r (o + 1) _ m inner ?_ (by omega)
    have := (World.ownsRow.stored h o u).1
    rwa [List.set_eq_of_length_le (by have := h.1; omega)] at this
theorem filter_yes (p : Int → Bool) (xs : List Int) (j : Nat) (hlt : j < xs.length) (hp : p xs[j] = true) : (xs.take (j + 1)).filter (fun x => !p x) = (xs.take j).filter (fun x => !p x) := by
  rw [List.take_succ_eq_append_getElem hlt, List.filter_append]
  simp [hp]
theorem filter_no (p : Int → Bool) (xs : List Int) (j : Nat) (hlt : j < xs.length) (hp : p xs[j] = false) : (xs.take (j + 1)).filter (fun x => !p x) = (xs.take j).filter (fun x => !p x) ++ [xs[j]] := by
  rw [List.take_succ_eq_append_getElem hlt, List.filter_append]
  simp [hp]
theorem Mk.setCells {S : List Nat} {g : Nat} (hg : g ∈ S) : ∀ (vs : List Value) (o : Nat) (w : World), Mk S w (w.setCells g o vs)
  | [], _, w => Mk.refl S w
  | u :: r, o, w => by
    rw [World.setCells]
    exact (Mk.set w hg o u).trans (Mk.setCells hg r (o + 1) _)
set_option maxHeartbeats 4000000 in
set_option maxRecDepth 100000 in
theorem deleteFuncI_any (xs : List Int) (p : Int → Bool) (g : Nat) (lb : Array Value) (eg : ∀ args w, (callFunc g args).run Try.prog w = .ok (.enter g args) w) (v : Value) (B : Nat) (ok : Nat → Prop) (w : World) (h : kI.R 3 w B ok v xs)
    (hp : ∀ x, x ∈ xs → ∀ W, Mk (obs v) w W → Calls Try.prog g (#[.int .i64 x] ++ lb) W (Ret W (.bool (p x)))) :
    Calls Try.prog 110 #[v, .func (.func g) #[] lb] w (fun e w' => ∃ v', e = .returned v' ∧ kI.R 3 w' B ok v' (xs.filter (fun x => !p x)) ∧ Mk (obs v) w w' ∧ (∀ b, v'.ownBlock = some b → v.ownBlock = some b)) := by
  obtain ⟨A, c, rfl, hcap, hC0⟩ := Kd.R_reads h
  have hmax := hC0.2.1
  have HIX := Lib.hid (indexFuncI_any xs p g lb eg A c w hC0 hcap (fun x hx W hb => hp x hx W (Mk.ofBelow hb)))
  have HP := Lib.hid hp
  have HO0 := Aside0.mk h
  clear hp hC0 h
  have hlo := fidx_lt p xs
  by_cases hany : xs.any p = true
  · have hf0 : 0 ≤ fidx p xs := of_decide_eq_true ((fidx_any p xs).trans hany)
    obtain ⟨i0, hi0⟩ : ∃ i0 : Nat, fidx p xs = i0 := ⟨(fidx p xs).toNat, by omega⟩
    have hlt0 : i0 < xs.length := by omega
    have hidx : xs.findIdx p = i0 := by
      unfold fidx at hi0
      split at hi0 <;> omega
    have hpre : ∀ j (hj : j < i0), p (xs[j]'(by omega)) = false := fun j hj => by
      have := List.not_of_lt_findIdx (p := p) (xs := xs) (i := j) (by omega)
      simpa using this
    have hat : p xs[i0] = true := by
      have := List.findIdx_getElem (p := p) (xs := xs) (w := by omega)
      simpa [hidx] using this
    have hflt : (xs.take (i0 + 1)).filter (fun x => !p x) = xs.take i0 := by
      rw [List.take_succ_eq_append_getElem hlt0, List.filter_append]
      have e1 : (xs.take i0).filter (fun x => !p x) = xs.take i0 := by
        rw [List.filter_eq_self]
        intro x hx
        obtain ⟨j, hj, rfl⟩ := List.getElem_of_mem hx
        rw [List.length_take] at hj
        rw [List.getElem_take, hpre j (by omega)]
        rfl
      rw [e1]
      simp [hat]
    have t1 : ((i0 : Int) == -1) = false := by rw [beq_eq_false_iff_ne]; omega
    have t1' : ((i0 : Int) != -1) = true := by rw [bne_iff_ne]; omega
    rw [hi0] at HIX
    have HFL := Lib.hid hflt
    clear hany hf0 hi0 hlo hidx hpre hat hflt
    obtain ⟨gg, cap, e, hg1, hg2, hg3⟩ : ∃ gg cap, A = some ⟨gg, 0, none⟩ ∧ c = cap ∧ B ≤ gg ∧ gg < w.heap.size := by
      obtain ⟨gg, cap, e, h1, h2, _⟩ := Kd.R_form HO0.out (by omega)
      injection e with e1 e2 e3
      exact ⟨gg, cap, e1, e3, h1, h2⟩
    subst e
    subst hg1
    have HG := Lib.hid hg3
    clear hg2 hg3
    go_enter Try.func110, Try.ntmps110
    go_wp2_with fail
    refine HIX.out.mono ?_
    rintro e w1 ⟨rfl, hb1⟩
    have HB1 := Lib.hid hb1
    clear hb1 HIX
    go_wp2_with fail
    go_loopg [5, 6, 7] xs.length (fun kq v5 v6 v7 w' => ∃ (i j : Nat) (ys : List Int), i < j ∧ j ≤ xs.length ∧ xs.length - j ≤ kq ∧ v5 = .int .i64 i ∧ v6 = .int .i64 j ∧ ys.length = xs.length ∧ Aside0 (ys.take i = (xs.take j).filter (fun x => !p x)) ∧ Aside0 (ys.drop j = xs.drop j) ∧ Aside0 (kI.R 3 w' B ok (.slice (some ⟨gg, 0, none⟩) xs.length c) ys) ∧ Aside0 (Mk (obs (.slice (some ⟨gg, 0, none⟩) xs.length c)) w w'))
    case atStart =>
      refine ⟨i0, i0 + 1, xs, by omega, by omega, by omega, rfl, by go_num, rfl, ⟨HFL.out.symm⟩, ⟨rfl⟩, ⟨Kd.R_below HO0.out HB1.out⟩, ⟨Mk.ofBelow HB1.out⟩⟩
    case round =>
      obtain ⟨i, j, ys, hij, hj, hg, rfl, rfl, hlen, HF, HD, HO, HM⟩ := hrel
      by_cases hlt : j < xs.length
      · obtain ⟨g2, cap2, e, _, _, hx, hfz, _, _⟩ := own_at HO.out j (by omega)
        obtain ⟨g3, cap3, e3, _, _, hx3, hfz3, _, HP3⟩ := own_at HO.out i (by omega)
        rw [hlen] at e e3 HP3
        obtain ⟨rfl, rfl⟩ : gg = g2 ∧ c = cap2 := by
          injection e with e1 _ e2
          injection e1 with e1
          injection e1 with e1
          exact ⟨e1, e2⟩
        obtain ⟨rfl, rfl⟩ : gg = g3 ∧ c = cap3 := by
          injection e3 with e1 _ e2
          injection e1 with e1
          injection e1 with e1
          exact ⟨e1, e2⟩
        have hyx : ys[j] = xs[j] := by
          have h1 := congrArg (fun l => l[0]?) HD.out
          simp only [List.getElem?_drop, Nat.add_zero] at h1
          rw [List.getElem?_eq_getElem (by omega), List.getElem?_eq_getElem hlt] at h1
          exact Option.some.inj h1
        rw [hyx] at hx
        have HC := Lib.hid (HP.out xs[j] (List.getElem_mem hlt) wr HM.out)
        have hd1 : xs.drop (j + 1) = ys.drop (j + 1) := by
          have := congrArg (List.drop 1) HD.out
          rw [List.drop_drop, List.drop_drop] at this
          exact this.symm
        have HD1 := Lib.hid hd1
        clear e e3 hyx hd1 hx3
        cases hb : p xs[j] with
        | true =>
          rw [hb] at HC
          have HFJ2 := Lib.hid (filter_yes p xs j hlt hb)
          clear hb HP3
          go_wp2_with fail
          refine HC.out.mono ?_
          rintro e w2 ⟨rfl, hb2⟩
          have HB2 := Lib.hid hb2
          clear hb2
          go_wp2_with fail
          go_roundg (xs.length - (j + 1))
          case measure => omega
          case rel =>
            exact ⟨i, j + 1, ys, by omega, by omega, Nat.le_refl _, by go_num, by go_num, hlen, ⟨HF.out.trans HFJ2.out.symm⟩, ⟨HD1.out.symm⟩, ⟨Kd.R_below HO.out HB2.out⟩, ⟨HM.out.trans (Mk.ofBelow HB2.out)⟩⟩
        | false =>
          rw [hb] at HC
          have HFJ2 := Lib.hid (filter_no p xs j hlt hb)
          clear hb HP3
          go_wp2_with fail
          refine HC.out.mono ?_
          rintro e w2 ⟨rfl, hb2⟩
          have HO2 := Aside0.mk (Kd.R_below HO.out hb2)
          obtain ⟨g4, cap4, e4, _, _, hx4, hfz4, _, HP4⟩ := own_at HO2.out i (by omega)
          rw [hlen] at e4 HP4
          obtain ⟨rfl, rfl⟩ : gg = g4 ∧ c = cap4 := by
            injection e4 with e1 _ e2
            injection e1 with e1
            injection e1 with e1
            exact ⟨e1, e2⟩
          have HP4 := Lib.hid (HP4 xs[j])
          have HM2 := Lib.hid ((HM.out.trans (Mk.ofBelow hb2)).trans (Mk.set w2 (S := obs (.slice (some ⟨gg, 0, none⟩) xs.length c)) (g := gg) (by simp [obs, Value.ownBlock]) i (.int .i64 xs[j])))
          clear hb2 e4
          go_wp2_with fail
          go_roundg (xs.length - (j + 1))
          case measure => omega
          case rel =>
            refine ⟨i + 1, j + 1, ys.set i xs[j], by omega, by omega, Nat.le_refl _, by go_num, by go_num, by rw [List.length_set]; exact hlen, ⟨?_⟩, ⟨?_⟩, ⟨HP4.out⟩, ⟨HM2.out⟩⟩
            · rw [HFJ2.out, ← HF.out, List.take_succ_eq_append_getElem (by rw [List.length_set]; omega), List.take_set_of_le (Nat.le_refl i)]
              simp
            · rw [List.drop_set_of_lt (by omega), ← HD1.out]
      · obtain rfl : j = xs.length := by omega
        have hF := HF.out
        rw [List.take_length] at hF
        have hn : xs.length - i ≠ 0 := by omega
        have hcc := Kd.R_celln (0 : Int) HO.out
        have hcl : ∀ ty, (Builtin.clear_ #[22] ty #[.slice (some ⟨gg, i, none⟩) (xs.length - i) (c - i)]).run Try.prog wr = .ok (.tuple #[]) (wr.setCells gg i (List.replicate (xs.length - i) (.int .i64 0))) :=
          fun ty => Lib.run_clear_slice wr 22 3 ty (.int .i64 0) Try.underlying22 (fun _ => by kernel_rfl) rfl rfl gg i _ _ (by omega) (fun k hk => by
            have := (hcc ((i + k : Nat) : Int) (by omega) (by omega)).1
            rw [Int.toNat_natCast] at this
            rw [this]; rfl) (fun k hk => by
            have := (hcc ((i + k : Nat) : Int) (by omega) (by omega)).2
            rwa [Int.toNat_natCast] at this)
        have HR := Lib.hid (show kI.R 3 (wr.setCells gg i (List.replicate (xs.length - i) (.int .i64 0))) B ok (.slice (some ⟨gg, 0, none⟩) i c) (xs.filter (fun x => !p x)) from by
          have h1 := Kd.R_take (m := i) HO.out (by omega)
          rw [hF] at h1
          refine Kd.R_of_own ?_ h1.1
          have hle : (xs.filter (fun x => !p x)).length = i := by rw [← hF, List.length_take]; omega
          have h2 := Kd.own_of_R h1
          rw [hle] at h2 ⊢
          exact own_zeroed _ i wr i _ h2 (Nat.le_refl _))
        have HM2 := Lib.hid (HM.out.trans (Mk.setCells (S := obs (.slice (some ⟨gg, 0, none⟩) xs.length c)) (g := gg) (by simp [obs, Value.ownBlock]) (List.replicate (xs.length - i) (.int .i64 0)) i wr))
        clear hcc hF
        have h1 : i ≤ xs.length := by omega
        have h2 : i ≤ c := by omega
        have h3 : i ≠ c := by omega
        go_wp2_with (simp only [hcl])
        go_ret
        exact ⟨_, rfl, HR.out, HM2.out, fun b hb => hb⟩
  · have hany' : xs.any p = false := by simpa using hany
    have hm : fidx p xs = -1 := fidx_miss (fun j hj => by
      rw [List.any_eq_false] at hany'
      simpa using hany' _ (List.getElem_mem hj))
    have hfl : xs.filter (fun x => !p x) = xs := by
      rw [List.filter_eq_self]
      intro x hx
      rw [List.any_eq_false] at hany'
      simpa using hany' x hx
    rw [hm] at HIX
    have HFL := Lib.hid hfl
    clear hany hany' hm hfl hlo
    go_enter Try.func110, Try.ntmps110
    go_wp2_with fail
    refine HIX.out.mono ?_
    rintro e w1 ⟨rfl, hb1⟩
    go_wp2_with fail
    go_ret
    exact ⟨_, rfl, by rw [HFL.out]; exact Kd.R_below HO0.out hb1, Mk.ofBelow hb1, fun b hb => hb⟩
end Go.Proofs.Ytnaefjilcabkoaa
end
section
namespace Go.Proofs.Ytnaefjilcabkoaa
open Go.RowKit Go.Proofs.YtnaefjilcabkoaaW.PrintWords Go.Proofs.YtnaefjilcabkoaaW.PrintLast Go.Proofs.YtnaefjilcabkoaaW.PrintMore
set_option linter.unusedVariables false
/-- Number, captured variables, the world in which these lie, what it computes, and that it does. -/
structure Fv where
  g : Nat
  lb : Array Value
  w0 : World
  f : List Int → Option (List Int)
  eg : ∀ args w, (callFunc g args).run Try.prog w = .ok (.enter g args) w
  ok : ∀ (P1_ : Nat → Prop) (u : Value) (l r : List Int) (wb w : World), Below wb.heap.size wb w → kI.R 3 w wb.heap.size P1_ u l → Below w0.heap.size w0 wb → f l = some r →
    Calls Try.prog g (#[u] ++ lb) w fun e w' => ∃ v0_ : Value, e = .returned v0_ ∧ kI.R 3 w' wb.heap.size (fun k_ => P1_ k_ ∨ w.heap.size ≤ k_) v0_ r ∧ Below wb.heap.size wb w' ∧ Kept w w' (fun k_ => P1_ k_)
end Go.Proofs.Ytnaefjilcabkoaa
namespace Go.Proofs.Ytnaefjilcabkoaa.Q
open Go.RowKit Go.Proofs.YtnaefjilcabkoaaW.PrintWords Go.Proofs.YtnaefjilcabkoaaW.PrintLast Go.Proofs.YtnaefjilcabkoaaW.PrintMore
set_option linter.unusedVariables false
def chg.f (a0 : Fv) (l1 : List Int) : Option (List Int) := a0.f l1
theorem chg.calls (a0 : Fv) (P1_ : Nat → Prop) (u9000_ : Value) (l1 : List Int) (r : List Int) (w0 w : World) (hB : Below w0.heap.size w0 w) (ho1 : Kd.R (Kd.int .i64) 3 w w0.heap.size P1_ u9000_ l1) (hw0 : Below a0.w0.heap.size a0.w0 w0) (h : chg.f a0 l1 = some r) :
    Calls Try.prog a0.g (#[u9000_] ++ a0.lb) w fun e w' => ∃ v0_ : Value, e = .returned v0_ ∧ Kd.R (Kd.int .i64) 3 w' w0.heap.size (fun k_ => (P1_ k_ ∨ w.heap.size ≤ k_)) v0_ r ∧ Below w0.heap.size w0 w' ∧ Kept w w' (fun k_ => P1_ k_) :=
  a0.ok P1_ u9000_ l1 r w0 w hB ho1 hw0 h
section
variable {P : Program} {ops : Array Oper} {Q : Exit → Act → World → Prop}
/-- A call of a function value in a plain region. -/
theorem goesV_ {rest : List Oper} {oi : Oper} {a : Act} {w : World} (N : Option Tmp) (hd : oi.dst = N) (hg : oi.guard = none) {f : FuncId} {lb : Array Value} {o1 : Operand} {as_ : Array Operand} {ts : Array TypeId} (heg : ∀ args w, (callFunc f args).run P w = .ok (.enter f args) w) (args : Array Value)
    (hop : oi.op = .call { callee := .value o1, args := as_, argTypes := ts }) (ho1 : a.eval o1 = .func (.func f) #[] lb) (hargs : as_.map a.eval = args)
    (h : Calls P f (args ++ lb) w fun e w' => ∃ v, e = .returned v ∧ wpList P ops Q rest (a.put N v) w') : wpList P ops Q (oi :: rest) a w := by
  refine wpList_plain hg fun K hK => ?_
  have he := heg (args ++ lb) w
  have hrun : (execOp a.eval oi).run P w = .ok (.enter f (args ++ lb)) w := by
    unfold execOp
    simp [hop, resolve, Deferred.ofValue, invoke, hargs, ho1, he]
  unfold Oper.wp
  rw [hrun, Oper.upon_enter]
  refine h.mono fun e w'' hh => ?_
  obtain ⟨v, rfl, hk⟩ := hh
  subst hd
  exact hK _ _ hk
end
end Go.Proofs.Ytnaefjilcabkoaa.Q
end
section
namespace Go.Proofs.Ytnaefjilcabkoaa
open Go.RowKit Go.Proofs.YtnaefjilcabkoaaW.PrintWords Go.Proofs.YtnaefjilcabkoaaW.PrintLast Go.Proofs.YtnaefjilcabkoaaW.PrintMore
set_option linter.unusedVariables false
set_option linter.unusedSimpArgs false
def laysNm221_ren : Go.Shelf.Ren := ⟨fun | 21 => 113 | 27 => 134 | 28 => 135 | 35 => 152 | 39 => 159 | n => n, fun | 22 => 22 | 3 => 3 | 4 => 4 | 0 => 0 | n => n, fun | n => n⟩
theorem laysNm221 : Go.Proofs.Lays2.n21 Try.prog laysNm221_ren := {
  mixed := by kernel_rfl
  f21 := Try.func113.trans (congrArg some (by kernel_rfl))
  f27 := Try.func134.trans (congrArg some (by kernel_rfl))
  f28 := Try.func135.trans (congrArg some (by kernel_rfl))
  f35 := Try.func152.trans (congrArg some (by kernel_rfl))
  f39 := Try.func159.trans (congrArg some (by kernel_rfl))
  t0 := Try.underlying0
  a0 := Try.isAgg0
  z0 := Try.sizeOf0
  v0 := Try.zeroValue0
  t3 := Try.underlying3
  a3 := Try.isAgg3
  z3 := Try.sizeOf3
  v3 := Try.zeroValue3
  t4 := Try.underlying4
  a4 := Try.isAgg4
  z4 := Try.sizeOf4
  v4 := Try.zeroValue4
  t22 := Try.underlying22
  a22 := Try.isAgg22
  z22 := Try.sizeOf22
  v22 := Try.zeroValue22
  i3 := by kernel_rfl }
def laysNm225_ren : Go.Shelf.Ren := ⟨fun | 25 => 112 | 31 => 132 | 32 => 133 | 37 => 151 | n => n, fun | 22 => 22 | 3 => 3 | 4 => 4 | 40 => 118 | 0 => 0 | n => n, fun | n => n⟩
theorem laysNm225 : Go.Proofs.Lays2.n25 Try.prog laysNm225_ren := {
  mixed := by kernel_rfl
  f25 := Try.func112.trans (congrArg some (by kernel_rfl))
  f31 := Try.func132.trans (congrArg some (by kernel_rfl))
  f32 := Try.func133.trans (congrArg some (by kernel_rfl))
  f37 := Try.func151.trans (congrArg some (by kernel_rfl))
  t0 := Try.underlying0
  a0 := Try.isAgg0
  z0 := Try.sizeOf0
  v0 := Try.zeroValue0
  t3 := Try.underlying3
  a3 := Try.isAgg3
  z3 := Try.sizeOf3
  v3 := Try.zeroValue3
  t4 := Try.underlying4
  a4 := Try.isAgg4
  z4 := Try.sizeOf4
  v4 := Try.zeroValue4
  t22 := Try.underlying22
  a22 := Try.isAgg22
  z22 := Try.sizeOf22
  v22 := Try.zeroValue22
  t40 := Try.underlying118
  a40 := Try.isAgg118
  z40 := Try.sizeOf118
  v40 := Try.zeroValue118 }
theorem below_cells {B g : Nat} {a : World} {w : World} (h : Below B a w) (hg : B ≤ g) : ∀ (vs : List Value) (o : Nat), Below B a (w.setCells g o vs) := by
  intro vs
  induction vs generalizing w with
  | nil => intro o; exact h
  | cons u r ih =>
    intro o
    rw [World.setCells]
    exact ih (h.setCell (p := ⟨g, o, none⟩) hg u) (o + 1)
theorem R_block {W : World} {g n cap B : Nat} {ok : Nat → Prop} {cur : Array Value} {xs : List Int} (hh : W.heap[g]? = some (.cells cur 3 (0, 0))) (hb : B ≤ g) (hok : ok g) (hn : xs.length = n) (h1 : n ≤ cap) (h2 : cap ≤ maxLen) (hs : cur.size = cap) (ht : cur.toList.take n = encI xs) :
    kI.R 3 W B ok (.slice (some ⟨g, 0, none⟩) n cap) xs := by
  subst hn
  refine Kd.R_of_own ⟨by simp [encs], .inr ⟨g, cap, cur, rfl, hb, hh, h1, h2, by rw [hs, Nat.mul_one], by rw [Nat.mul_one]; exact ht⟩⟩ (fun k hk => ?_)
  have : g = k := by simpa [Value.ownBlock] using hk
  exact this ▸ hok
theorem zeroCells_list (k : Nat) : (Builtin.zeroCells (Value.int .i64 0).cells k).toList = List.replicate k (.int .i64 0) := by
  simp only [Builtin.zeroCells, Value.cells]
  apply List.ext_getElem
  · simp
  · intro i h1 h2
    simp [Nat.mod_one]
theorem zeroCells_size (k : Nat) : (Builtin.zeroCells (Value.int .i64 0).cells k).size = k := by
  rw [← Array.length_toList, zeroCells_list, List.length_replicate]
theorem encI_len (a : List Int) : (encI a).length = a.length := by simp [encs]
/-- A row with one number more. -/
def putAt (xs : List Int) (k : Nat) (x : Int) : List Int := xs.take k ++ x :: xs.drop k
theorem encI_putAt (xs : List Int) (k : Nat) (x : Int) : encI (putAt xs k x) = (encI xs).take k ++ Value.int .i64 x :: (encI xs).drop k := by simp [putAt, encs]
theorem putAt_len (xs : List Int) (k : Nat) (x : Int) (hk : k ≤ xs.length) : (putAt xs k x).length = xs.length + 1 := by simp [putAt]; omega
set_option maxHeartbeats 1000000 in
theorem insertI_any (xs : List Int) (x : Int) (k : Nat) (v : Value) (B : Nat) (P1 : Nat → Prop) (w : World) (vb : Nat) (h : kI.R 3 w B P1 v xs) (hk : k ≤ xs.length) (hB : B ≤ w.heap.size) (hx : w.heap[vb]? = some (.cells #[.int .i64 x] 3 (0, 0))) (hne : v.ownBlock ≠ some vb) (hlen : xs.length ≤ 1000000) :
    Calls Try.prog 113 #[v, .int .i64 k, .slice (some ⟨vb, 0, none⟩) 1 1] w (fun e w' => ∃ v', e = .returned v' ∧ kI.R 3 w' B (fun b => P1 b ∨ w.heap.size ≤ b) v' (putAt xs k x) ∧ Mk (obs v) w w') := by
  have hvs : ∀ j u, ([Value.int .i64 x] : List Value)[j]? = some u → w.cell? ⟨vb, 0 + j, none⟩ = some u := by
    intro j u hj
    cases j with
    | zero => cases hj; exact (blk_cell hx 0).trans rfl
    | succ j => simp at hj
  have h1v : ∀ u ∈ ([Value.int .i64 x] : List Value), u.oneCell' = true := by simp [Value.oneCell']
  have h1c : ∀ u ∈ encI xs, u.oneCell' = true := by
    intro u hu
    obtain ⟨y, _, rfl⟩ := List.mem_map.1 hu
    rfl
  have hmx : maxLen = 9223372036854775807 := rfl
  have ho := Kd.own_of_R h
  rcases ho with ⟨_, ⟨rfl, h0⟩ | ⟨g, cap, cur, rfl, hg, hh, hnc, hcm, hcs, htake⟩⟩
  · have hxs : xs = [] := List.eq_nil_of_length_eq_zero h0
    subst hxs
    have hk0 : k = 0 := by simpa using hk
    subst hk0
    refine (Any2.slices_Insert_int_end_grow laysNm221 none 0 0 vb 0 1 1 [] [.int .i64 x] w (by omega) (Nat.le_refl _) (by omega) (by omega) rfl rfl (fun _ => rfl) (fun a ha => by cases ha) hvs h1v).mono ?_
    rintro e w' ⟨he, hw⟩
    rw [show laysNm221_ren.t 3 = 3 from rfl] at he hw
    subst he
    subst hw
    refine ⟨_, rfl, ?_, Mk.ofBelow (((Below.refl _ _).drew).alloc (by simp) _)⟩
    refine R_block (g := w.heap.size) (cur := _) (by have := blk_new w.drew (.cells ((([] : List Value) ++ [Value.int .i64 x]).toArray ++ Builtin.zeroCells (Value.int .i64 0).cells (grownCap w (0 + 1) 0 3 - (0 + 1))) 3); simpa using this) hB (.inr (Nat.le_refl _)) (by simp [putAt]) (grownCap_ge _ _ _ _) (grownCap_le_maxLen _ _ _ _ (by rw [hmx]; omega)) ?_ ?_
    · have := grownCap_ge w (0 + 1) 0 3
      rw [Array.size_append, zeroCells_size]
      simp at this ⊢
      omega
    · simp [putAt, encs]
  · rw [Nat.mul_one] at hcs htake
    have htake : cur.toList.take xs.length = encI xs := htake
    have hgw : g < w.heap.size := blk_lt hh
    have ht0 : (encI xs).take xs.length = encI xs := List.take_of_length_le (by simp [encs])
    have hd0 : (encI xs).drop xs.length = [] := List.drop_eq_nil_of_le (by simp [encs])
    have hPg : P1 g := h.1 g rfl
    have hgv : vb ≠ g := fun e => hne (by rw [e]; rfl)
    have hcell : ∀ j, j < cap → w.cell? ⟨g, 0 + j, none⟩ = some (cur[j]?.getD (.int .i64 0)) := by
      intro j hj
      rw [Nat.zero_add]
      refine (blk_cell hh j).trans ?_
      rw [Array.getElem?_eq_getElem (by omega)]
      rfl
    have hcs1 : ∀ j u, (encI xs)[j]? = some u → w.cell? ⟨g, 0 + j, none⟩ = some u := by
      intro j u hj
      have hjl : j < xs.length := by
        have := (List.getElem?_eq_some_iff.1 hj).1
        rwa [encI_len] at this
      rw [← htake, List.getElem?_take_of_lt hjl] at hj
      rw [Nat.zero_add]
      refine (blk_cell hh j).trans ?_
      rw [← hj]
      simp
    have hfz : ∀ j, w.frozen? ⟨g, 0 + j, none⟩ = false := fun j => blk_frozen hh _
    by_cases hkn : k = xs.length
    · subst hkn
      by_cases hroom : xs.length + 1 ≤ cap
      · refine (Any2.slices_Insert_int_end_room laysNm221 g 0 xs.length cap vb 0 1 1 [.int .i64 x] w (by omega) hroom (by rw [hmx] at hcm; omega) rfl (fun j hj => by rw [show 0 + xs.length + j = 0 + (xs.length + j) from by omega, hcell _ (by omega)]; rfl) (fun j _ => by rw [show 0 + xs.length + j = 0 + (xs.length + j) from by omega]; exact hfz _) hvs h1v).mono ?_
        rintro e w' ⟨rfl, rfl⟩
        obtain ⟨cur', hc1, hc2, hc3⟩ := setCells_row (g := g) (e := 3) [.int .i64 x] (0 + xs.length) w cur hh (by simp; omega)
        refine ⟨_, rfl, R_block hc1 hg (.inl hPg) (putAt_len _ _ _ (Nat.le_refl _)) hroom hcm (by rw [hc2, hcs]) ?_, Mk.setCells (by simp [obs, Value.ownBlock]) _ _ _⟩
        rw [hc3, Nat.zero_add, htake, encI_putAt, ht0, hd0]
        rw [List.take_append_of_le_length (by simp [encs]), List.take_of_length_le (by simp [encs])]
      · refine (Any2.slices_Insert_int_end_grow laysNm221 (some ⟨g, 0, none⟩) xs.length cap vb 0 1 1 (encI xs) [.int .i64 x] w (by omega) hnc (by omega) (by omega) (encI_len _) rfl (fun ha => by cases ha) (fun a ha j u hj => by cases ha; rw [Addr.add_lit]; exact hcs1 j u hj) hvs h1v).mono ?_
        rintro e w' ⟨he, hw⟩
        rw [show laysNm221_ren.t 3 = 3 from rfl] at he hw
        subst he
        subst hw
        refine ⟨_, rfl, ?_, Mk.ofBelow (((Below.refl _ _).drew).alloc (by simp) _)⟩
        refine R_block (g := w.heap.size) (cur := _) (by have := blk_new w.drew (.cells ((encI xs ++ [Value.int .i64 x]).toArray ++ Builtin.zeroCells (Value.int .i64 0).cells (grownCap w (xs.length + 1) cap 3 - (xs.length + 1))) 3); simpa using this) hB (.inr (Nat.le_refl _)) (putAt_len _ _ _ (Nat.le_refl _)) (grownCap_ge _ _ _ _) (grownCap_le_maxLen _ _ _ _ (by rw [hmx]; omega)) ?_ ?_
        · have := grownCap_ge w (xs.length + 1) cap 3
          rw [Array.size_append, zeroCells_size]
          simp [encs]
          omega
        · rw [Array.toList_append, encI_putAt, ht0, hd0]
          rw [List.take_append_of_le_length (by simp [encs]), List.take_of_length_le (by simp [encs])]
    · have hi : k < xs.length := by omega
      by_cases hroom : xs.length + 1 ≤ cap
      · refine (Any2.slices_Insert_int_shift laysNm221 g 0 xs.length cap k vb 0 1 1 (encI xs) [.int .i64 x] w hi (by omega) hroom (by rw [hmx] at hcm; omega) hgv (encI_len _) rfl hcs1 (fun j hj => by rw [hcell _ (by omega)]; rfl) (fun j _ => hfz _) hvs h1c h1v 3 3 1 cap (by simp [World.shape?, hx]) (by simp [World.shape?, hh, hcs]) (by omega) (blk_frozen hx _) (blk_frozen hx _)).mono ?_
        rintro e w' ⟨rfl, rfl⟩
        have hhd : w.drew.heap[g]? = some (.cells cur 3 (0, 0)) := blk_drew hh
        obtain ⟨cur1, hc1, hc2, hc3⟩ := setCells_row (g := g) (e := 3) ((encI xs).drop k) (0 + (k + 1)) w.drew cur hhd (by simp [encs]; omega)
        obtain ⟨cur2, hd1, hd2, hd3⟩ := setCells_row (g := g) (e := 3) [.int .i64 x] (0 + k) _ cur1 hc1 (by simp; omega)
        refine ⟨_, rfl, R_block hd1 hg (.inl hPg) (putAt_len _ _ _ hk) hroom hcm (by rw [hd2, hc2, hcs]) ?_, ((Mk.ofBelow (Below.refl _ _).drew).trans (Mk.setCells (by simp [obs, Value.ownBlock]) _ _ _)).trans (Mk.setCells (by simp [obs, Value.ownBlock]) _ _ _)⟩
        rw [hd3, hc3, encI_putAt]
        simp only [Nat.zero_add]
        have hl : cur.toList.length = cap := by rw [Array.length_toList, hcs]
        have e1 : ((cur.toList.take (k + 1) ++ (encI xs).drop k) ++ cur.toList.drop (k + 1 + ((encI xs).drop k).length)).take k = (encI xs).take k := by
          rw [List.append_assoc, List.take_append_of_le_length (by rw [List.length_take]; omega), List.take_take, ← htake, List.take_take]
          congr 1
          omega
        have e2 : ((cur.toList.take (k + 1) ++ (encI xs).drop k) ++ cur.toList.drop (k + 1 + ((encI xs).drop k).length)).drop (k + [Value.int .i64 x].length) = (encI xs).drop k ++ cur.toList.drop (k + 1 + ((encI xs).drop k).length) := by
          rw [List.append_assoc, List.drop_append_of_le_length (by simp; omega)]
          rw [List.drop_eq_nil_of_le (by simp; omega)]
          rfl
        rw [e1, e2]
        have hkl : ((encI xs).take k).length = k := by simp [encs]; omega
        rw [List.append_assoc, List.singleton_append, ← List.cons_append, ← List.append_assoc, List.take_append_of_le_length (by simp [encs]; omega), List.take_of_length_le (by simp [encs]; omega)]
      · refine (Any2.slices_Insert_int_grow laysNm221 g 0 xs.length cap k vb 0 1 1 (encI xs) [.int .i64 x] w hi (by omega) hnc (by omega) (by omega) (encI_len _) rfl hcs1 hvs h1c h1v).mono ?_
        rintro e w' ⟨he, hw⟩
        rw [show laysNm221_ren.t 3 = 3 from rfl] at he hw
        subst he
        subst hw
        have hcap := grownCap_ge w (xs.length + 1) cap 3
        have h0 := blk_new w (.cells (((encI xs).take k).toArray ++ Builtin.zeroCells (Value.int .i64 0).cells (xs.length + 1 - k) ++ Builtin.zeroCells (Value.int .i64 0).cells (grownCap w (xs.length + 1) cap 3 - (xs.length + 1))) 3)
        have hsz : (((encI xs).take k).toArray ++ Builtin.zeroCells (Value.int .i64 0).cells (xs.length + 1 - k) ++ Builtin.zeroCells (Value.int .i64 0).cells (grownCap w (xs.length + 1) cap 3 - (xs.length + 1))).size = grownCap w (xs.length + 1) cap 3 := by
          rw [Array.size_append, Array.size_append, zeroCells_size, zeroCells_size]
          simp [encs]
          omega
        obtain ⟨cur1, hc1, hc2, hc3⟩ := setCells_row (g := w.heap.size) (e := 3) [.int .i64 x] k _ _ (blk_drew h0) (by rw [hsz]; simp; omega)
        obtain ⟨cur2, hd1, hd2, hd3⟩ := setCells_row (g := w.heap.size) (e := 3) ((encI xs).drop k) (k + 1) _ _ (blk_drew hc1) (by rw [hc2, hsz]; simp [encs]; omega)
        refine ⟨_, rfl, R_block hd1 hB (.inr (Nat.le_refl _)) (putAt_len _ _ _ hk) hcap (grownCap_le_maxLen _ _ _ _ (by rw [hmx]; omega)) (by rw [hd2, hc2, hsz]) ?_, Mk.ofBelow ?_⟩
        · rw [hd3, hc3, encI_putAt, Array.toList_append, Array.toList_append, zeroCells_list, zeroCells_list, List.toList_toArray]
          have hkl : ((encI xs).take k).length = k := by simp [encs]; omega
          generalize hA : (encI xs).take k = A at hkl ⊢
          generalize hD : (encI xs).drop k = D
          have hDl : D.length = xs.length - k := by rw [← hD]; simp [encs]
          have e1 : (A ++ List.replicate (xs.length + 1 - k) (Value.int .i64 0) ++ List.replicate (grownCap w (xs.length + 1) cap 3 - (xs.length + 1)) (Value.int .i64 0)).take k = A := by
            rw [List.append_assoc, List.take_append_of_le_length (by omega), List.take_of_length_le (by omega)]
          rw [e1]
          have e2 : ((A ++ [Value.int .i64 x]) ++ List.drop (k + [Value.int .i64 x].length) (A ++ List.replicate (xs.length + 1 - k) (Value.int .i64 0) ++ List.replicate (grownCap w (xs.length + 1) cap 3 - (xs.length + 1)) (Value.int .i64 0))).take (k + 1) = A ++ [Value.int .i64 x] := by
            rw [List.take_append_of_le_length (by simp; omega), List.take_of_length_le (by simp; omega)]
          rw [e2, List.append_assoc A, List.singleton_append, List.append_assoc, List.cons_append]
          rw [show ∀ (Z : List Value), A ++ Value.int .i64 x :: (D ++ Z) = (A ++ Value.int .i64 x :: D) ++ Z from fun Z => by simp]
          rw [List.take_append_of_le_length (by simp; omega), List.take_of_length_le (by simp; omega)]
        · have hb0 : Below w.heap.size w (w.alloc (.cells (((encI xs).take k).toArray ++ Builtin.zeroCells (Value.int .i64 0).cells (xs.length + 1 - k) ++ Builtin.zeroCells (Value.int .i64 0).cells (grownCap w (xs.length + 1) cap 3 - (xs.length + 1))) 3)) := below_new _ _
          exact below_cells (below_cells hb0.drew (Nat.le_refl _) _ _).drew (Nat.le_refl _) _ _
/-- A set with a number. -/
def putS (l : List Int) (x : Int) : List Int := if x ∈ l then l else putAt l (l.countP (· < x)) x
set_option maxHeartbeats 1000000 in
theorem bsearch_any (xs : List Int) (x : Int) (v : Value) (B : Nat) (P1 : Nat → Prop) (w : World) (h : kI.R 3 w B P1 v xs) (hs : xs.Pairwise (· < ·)) (hlen : xs.length ≤ 1000000) :
    Calls Try.prog 112 #[v, .int .i64 x] w (fun e w' => e = .returned (.tuple #[.int .i64 (xs.countP (· < x) : Nat), .bool (decide (x ∈ xs))]) ∧ Below w.heap.size w w') := by
  have ho := Kd.own_of_R h
  rcases ho with ⟨_, ⟨rfl, h0⟩ | ⟨g, cap, cur, rfl, hg, hh, hnc, hcm, hcs, htake⟩⟩
  · have hxs : xs = [] := List.eq_nil_of_length_eq_zero h0
    subst hxs
    refine (Any.slices_BinarySearch_int_empty laysNm225 none 0 x w).mono ?_
    rintro e w' ⟨rfl, rfl⟩
    exact ⟨by simp, Below.refl _ _⟩
  · rw [Nat.mul_one] at htake
    refine (Any.slices_BinarySearch_int laysNm225 g 0 xs.length cap xs x w (Nat.le_refl _) (by omega) (fun j hj => ?_) (by rw [List.take_length]; exact hs.imp (fun h => Int.le_of_lt h))).mono ?_
    · rw [Nat.zero_add]
      have h1 := congrArg (fun l => l[j]?) htake
      simp only [List.getElem?_take_of_lt hj] at h1
      refine (blk_cell hh j).trans ?_
      rw [← Array.getElem?_toList, h1]
      simp [encs, List.getD_eq_getElem?_getD, List.getElem?_eq_getElem hj]
    · rintro e w' ⟨rfl, q, rfl⟩
      refine ⟨by rw [List.take_length, List.contains_eq_mem], pw_below_drewN (Below.refl _ _) _⟩
set_option maxHeartbeats 1000000 in
theorem withScope_any (xs : List Int) (x : Int) (v : Value) (B : Nat) (P1 : Nat → Prop) (w : World) (h : kI.R 3 w B P1 v xs) (hB : B ≤ w.heap.size) (hs : xs.Pairwise (· < ·)) (hlen : xs.length ≤ 1000000) :
    Calls Try.prog 71 #[v, .int .i64 x] w (fun e w' => ∃ v', e = .returned v' ∧ kI.R 3 w' B (fun b => P1 b ∨ w.heap.size ≤ b) v' (putS xs x) ∧ Mk (obs v) w w') := by
  have HC := Lib.hid (bsearch_any xs x v B P1 w h hs hlen)
  have HR := Aside0.mk h
  obtain ⟨A, c, rfl⟩ := Kd.R_slice h
  have hcl := List.countP_le_length (p := fun y => decide (y < x)) (l := xs)
  clear h hs
  by_cases hx : x ∈ xs
  · have HX := Lib.hid hx
    rw [decide_eq_true hx] at HC
    clear hx
    go_enter Try.func71, Try.ntmps71
    go_wp2_with fail
    refine HC.out.mono ?_
    rintro e w1 ⟨rfl, hb1⟩
    go_wp2_with fail
    go_ret
    refine ⟨_, rfl, ?_, Mk.ofBelow hb1⟩
    rw [putS, if_pos HX.out]
    exact Kd.R_mono (Kd.R_below HR.out hb1) (fun _ h => .inl h)
  · have HX := Lib.hid hx
    rw [decide_eq_false hx] at HC
    clear hx
    go_enter Try.func71, Try.ntmps71
    go_wp2_with fail
    refine HC.out.mono ?_
    rintro e w1 ⟨rfl, hb1⟩
    have HB1 := Lib.hid hb1
    have HL := Lib.hid (Kd.R_lt HR.out)
    clear hb1
    go_wp2_with fail
    refine (insertI_any xs x (xs.countP (· < x)) (.slice A xs.length c) B P1 _ w1.heap.size (Kd.R_alloc (Kd.R_below HR.out HB1.out) _) hcl (by have := HB1.out.size; simp; omega) (by simpa using blk_new w1 (.cells #[.int .i64 x] 3)) (fun e => by have := HL.out _ e; have := HB1.out.size; omega) hlen).mono ?_
    rintro e w2 ⟨v', rfl, hR, hM⟩
    have HF := Lib.hid (And.intro hR hM)
    clear hR hM
    go_wp2_with fail
    go_ret
    refine ⟨_, rfl, ?_, (Mk.ofBelow (below_step HB1.out (below_new _ _))).trans HF.out.2⟩
    rw [putS, if_neg HX.out]
    refine Kd.R_mono HF.out.1 (fun b hb => hb.imp id (fun h => ?_))
    have := HB1.out.size
    simp at h
    omega
end Go.Proofs.Ytnaefjilcabkoaa
end
section
namespace Go.Proofs.Ytnaefjilcabkoaa
open Go.RowKit Go.Proofs.YtnaefjilcabkoaaW.PrintWords Go.Proofs.YtnaefjilcabkoaaW.PrintLast Go.Proofs.YtnaefjilcabkoaaW.PrintMore
set_option linter.unusedVariables false
set_option linter.unusedSimpArgs false
/-- How a function tells of a form in new memory: from block B on. -/
structure Tells where
  T : Nat → World → Fm → Value → Value → Prop
  move : ∀ {B w w' x v3 v4}, T B w x v3 v4 → (∀ b, B ≤ b → w'.heap[b]? = w.heap[b]?) → T B w' x v3 v4
  low : ∀ {B B' w x v3 v4}, B' ≤ B → T B w x v3 v4 → T B' w x v3 v4
  form : ∀ {B w x v3 v4}, T B w x v3 v4 → ∃ A c B d, v3 = .slice A x.f3.length c ∧ v4 = .slice B x.f4.length d
def RetT (t : Tells) (w : World) (p : Fm × Bool) (e : Ending) (w' : World) : Prop := ∃ v3 v4, e = .returned (.tuple #[.agg #[.int .i64 p.1.f0, .string p.1.f1, .int .i64 p.1.f2, v3, v4], .bool p.2]) ∧ t.T w.heap.size w' p.1 v3 v4 ∧ Below w.heap.size w w'
def tellsNew : Tells where
  T := NewF
  move := by
    rintro B w w' x v3 v4 ⟨fp, ht, hn, hg⟩ hm
    exact ⟨fp, ht.move x (fun b hb => hm b (hg b hb)), hn, hg⟩
  low := by
    rintro B B' w x v3 v4 hb ⟨fp, ht, hn, hg⟩
    exact ⟨fp, ht, hn, fun b h => Nat.le_trans hb (hg b h)⟩
  form := by
    rintro B w x v3 v4 ⟨fp, ht, hn, hg⟩
    obtain ⟨A3, c3, A4, c4, e3, e4, _⟩ := ht.In
    exact ⟨A3, c3, A4, c4, e3, e4⟩
def tellsR : Tells where
  T := fun B w x v3 v4 => kI.R 3 w B (fun _ => True) v3 x.f3 ∧ kF.R 29 w B (fun k => some k ≠ v3.ownBlock) v4 x.f4
  move := by
    rintro B w w' x v3 v4 ⟨h3, h4⟩ hm
    have h3' := Kd.R_mono (Kd.R_move (Kd.R_bound h3) (fun k hk => hm k hk.2.1)) (fun _ _ => trivial)
    exact ⟨h3', Kd.R_mono (Kd.R_move (Kd.R_bound h4) (fun k hk => hm k hk.2.1)) (fun _ hk => hk.1)⟩
  low := by
    rintro B B' w x v3 v4 hb ⟨h3, h4⟩
    exact ⟨Kd.R_lower h3 hb, Kd.R_lower h4 hb⟩
  form := by
    rintro B w x v3 v4 ⟨h3, h4⟩
    obtain ⟨A, c, e3⟩ := Kd.R_slice h3
    obtain ⟨A2, c2, e4⟩ := Kd.R_slice h4
    exact ⟨A, c, A2, c2, e3, e4⟩
theorem without1_any (x n : Int) (g : Nat) (w : World) (hg : w.cell? ⟨g, 0, none⟩ = some (.int .i64 n)) :
    Calls Try.prog 111 #[.int .i64 x, .pointer (some ⟨g, 0, none⟩)] w (Ret w (.bool (x == n))) := by
  go_enter Try.func111, Try.ntmps111
  generalize hd : (x == n) = b
  go_wp2_with fail
  go_ret
  exact ⟨rfl, Below.refl _ _⟩
theorem withoutScope_any (xs : List Int) (n : Int) (v : Value) (B : Nat) (ok : Nat → Prop) (w : World) (h : kI.R 3 w B ok v xs) :
    Calls Try.prog 69 #[v, .int .i64 n] w (fun e w' => ∃ v', e = .returned v' ∧ kI.R 3 w' B ok v' (xs.filter (fun x => !(x == n))) ∧ Mk (obs v) w w') := by
  have eg : ∀ args w, (callFunc 111 args).run Try.prog w = .ok (.enter 111 args) w := enters_of Try.func111 (by kernel_rfl) rfl
  have hbx := below_new w (.cells #[.int .i64 n] 3)
  have hlt := Kd.R_lt h
  have HC := Lib.hid (deleteFuncI_any xs (fun x => x == n) 111 #[.pointer (some ⟨w.heap.size, 0, none⟩)] eg v B ok (w.alloc (.cells #[.int .i64 n] 3)) (Kd.R_below h hbx)
    (fun x _ W hM => without1_any x n w.heap.size W ((blk_cell ((hM.keep w.heap.size (by simp) (fun hm => by have := hlt _ (obs_mem.1 hm); omega)).trans (blk_new w _)) 0).trans rfl)))
  have HB := Lib.hid hbx
  obtain ⟨A, c, rfl⟩ := Kd.R_slice h
  clear h hbx hlt eg
  go_enter Try.func69, Try.ntmps69
  go_wp2_with fail
  refine HC.out.mono ?_
  rintro e w1 ⟨v', rfl, hR, hM, _⟩
  have HF := Lib.hid (And.intro hR hM)
  clear hR hM
  go_wp2_with fail
  go_ret
  exact ⟨_, rfl, HF.out.1, (Mk.ofBelow HB.out).trans HF.out.2⟩
/-- What a mover leaves, as_ the print tells it. -/
theorem Mk.kept {v : Value} {w w' : World} {P1 : Nat → Prop} (h : Mk (obs v) w w') (hp : ∀ k, v.ownBlock = some k → P1 k) : Kept w w' (fun k => P1 k) := ⟨h.b0.size, fun i hi hn => h.keep i hi (fun hm => hn (hp i (obs_mem.1 hm)))⟩
theorem Mk.below_own {v : Value} {wb w w' : World} (h : Mk (obs v) w w') (hB : Below wb.heap.size wb w) (hv : ∀ k, v.ownBlock = some k → wb.heap.size ≤ k) : Below wb.heap.size wb w' := hB.trans (h.below hB.size (fun b hb => hv b (obs_mem.1 hb)))
/-- A set with a number put in or taken out. -/
def flipS (l : List Int) (n : Int) : List Int := if n ∈ l then l.filter (fun y => !(y == n)) else putS l n
/-- AddScope's closure as_ a function value: the number lies in block g of w0. -/
noncomputable def fvAddScope (n : Int) (g : Nat) (w0 : World) (hg : w0.cell? ⟨g, 0, none⟩ = some (.int .i64 n)) : Fv where
  g := 70
  lb := #[.pointer (some ⟨g, 0, none⟩)]
  w0 := w0
  f := fun l => gIf (l.Pairwise (· < ·) ∧ l.length ≤ 1000000) (putS l n)
  eg := enters_of Try.func70 (by kernel_rfl) rfl
  ok := by
    intro P1 u l r wb w hB hR h0 hf
    have hc : w.cell? ⟨g, 0, none⟩ = some (.int .i64 n) := ck0 hB (ck0 h0 hg)
    have hsz := hB.size
    have hbase := Kd.R_base hR
    obtain ⟨⟨hs, hl⟩, rfl⟩ := gIf_some hf
    have HC := Lib.hid (withScope_any l n u wb.heap.size P1 w hR hsz hs hl)
    have HF := Lib.hid (And.intro hR (And.intro hB hbase))
    obtain ⟨A, c, rfl⟩ := Kd.R_slice hR
    clear hR hB h0 hbase
    show Calls Try.prog 70 #[.slice A l.length c, .pointer (some ⟨g, 0, none⟩)] w _
    go_enter Try.func70, Try.ntmps70
    go_wp2_with fail
    refine HC.out.mono ?_
    rintro e w1 ⟨v', rfl, hR1, hM1⟩
    have HG := Lib.hid (And.intro hR1 hM1)
    clear hR1 hM1
    go_wp2_with fail
    go_ret
    exact ⟨_, rfl, HG.out.1, HG.out.2.below_own HF.out.2.1 HF.out.2.2, HG.out.2.kept HF.out.1.1⟩
/-- DropScope's closure as_ a function value: the number lies in block g of w0. -/
noncomputable def fvDropScope (n : Int) (g : Nat) (w0 : World) (hg : w0.cell? ⟨g, 0, none⟩ = some (.int .i64 n)) : Fv where
  g := 68
  lb := #[.pointer (some ⟨g, 0, none⟩)]
  w0 := w0
  f := fun l => some (l.filter (fun y => !(y == n)))
  eg := enters_of Try.func68 (by kernel_rfl) rfl
  ok := by
    intro P1 u l r wb w hB hR h0 hf
    have hc : w.cell? ⟨g, 0, none⟩ = some (.int .i64 n) := ck0 hB (ck0 h0 hg)
    have hsz := hB.size
    have hbase := Kd.R_base hR
    obtain rfl := Option.some.inj hf
    have HC := Lib.hid (withoutScope_any l n u wb.heap.size P1 w hR)
    have HF := Lib.hid (And.intro hR (And.intro hB hbase))
    obtain ⟨A, c, rfl⟩ := Kd.R_slice hR
    clear hR hB h0 hbase
    show Calls Try.prog 68 #[.slice A l.length c, .pointer (some ⟨g, 0, none⟩)] w _
    go_enter Try.func68, Try.ntmps68
    go_wp2_with fail
    refine HC.out.mono ?_
    rintro e w1 ⟨v', rfl, hR1, hM1⟩
    have HG := Lib.hid (And.intro hR1 hM1)
    clear hR1 hM1
    go_wp2_with fail
    go_ret
    exact ⟨_, rfl, Kd.R_mono HG.out.1 (fun _ h => .inl h), HG.out.2.below_own HF.out.2.1 HF.out.2.2, HG.out.2.kept HF.out.1.1⟩
theorem flip_any (xs : List Int) (x : Int) (v : Value) (B : Nat) (P1 : Nat → Prop) (w : World) (h : kI.R 3 w B P1 v xs) (hB : B ≤ w.heap.size) (hs : xs.Pairwise (· < ·)) (hlen : xs.length ≤ 1000000) :
    Calls Try.prog 81 #[v, .int .i64 x] w (fun e w' => ∃ v', e = .returned v' ∧ kI.R 3 w' B (fun b => P1 b ∨ w.heap.size ≤ b) v' (flipS xs x) ∧ Mk (obs v) w w') := by
  obtain ⟨A, c, rfl, hcap, hC⟩ := Kd.R_reads h
  have HC := Lib.hid (containsI_any xs x A c w hC hcap)
  have HR := Aside0.mk h
  have HS := Lib.hid hs
  clear h hC hs
  by_cases hx : x ∈ xs
  · have HX := Lib.hid hx
    rw [decide_eq_true hx] at HC
    clear hx
    go_enter Try.func81, Try.ntmps81
    go_wp2_with fail
    refine HC.out.mono ?_
    rintro e w1 ⟨rfl, hb1⟩
    have HB1 := Lib.hid hb1
    clear hb1
    go_wp2_with fail
    refine (withoutScope_any xs x (.slice A xs.length c) B P1 w1 (Kd.R_below HR.out HB1.out)).mono ?_
    rintro e w2 ⟨v', rfl, hR2, hM2⟩
    have HF := Lib.hid (And.intro hR2 hM2)
    clear hR2 hM2
    go_wp2_with fail
    go_ret
    refine ⟨_, rfl, ?_, (Mk.ofBelow HB1.out).trans HF.out.2⟩
    rw [flipS, if_pos HX.out]
    exact Kd.R_mono HF.out.1 (fun _ h => .inl h)
  · have HX := Lib.hid hx
    rw [decide_eq_false hx] at HC
    clear hx
    go_enter Try.func81, Try.ntmps81
    go_wp2_with fail
    refine HC.out.mono ?_
    rintro e w1 ⟨rfl, hb1⟩
    have HB1 := Lib.hid hb1
    clear hb1
    go_wp2_with fail
    refine (withScope_any xs x (.slice A xs.length c) B P1 w1 (Kd.R_below HR.out HB1.out) (Nat.le_trans hB HB1.out.size) HS.out hlen).mono ?_
    rintro e w2 ⟨v', rfl, hR2, hM2⟩
    have HF := Lib.hid (And.intro hR2 hM2)
    clear hR2 hM2
    go_wp2_with fail
    go_ret
    refine ⟨_, rfl, ?_, (Mk.ofBelow HB1.out).trans HF.out.2⟩
    rw [flipS, if_neg HX.out]
    exact Kd.R_mono HF.out.1 (fun b hb => hb.imp id (fun h => Nat.le_trans HB1.out.size h))
/-- FlipScope's closure as_ a function value: the number lies in block g of w0. -/
noncomputable def fvFlipScope (n : Int) (g : Nat) (w0 : World) (hg : w0.cell? ⟨g, 0, none⟩ = some (.int .i64 n)) : Fv where
  g := 80
  lb := #[.pointer (some ⟨g, 0, none⟩)]
  w0 := w0
  f := fun l => gIf (l.Pairwise (· < ·) ∧ l.length ≤ 1000000) (flipS l n)
  eg := enters_of Try.func80 (by kernel_rfl) rfl
  ok := by
    intro P1 u l r wb w hB hR h0 hf
    have hc : w.cell? ⟨g, 0, none⟩ = some (.int .i64 n) := ck0 hB (ck0 h0 hg)
    have hsz := hB.size
    have hbase := Kd.R_base hR
    obtain ⟨⟨hs, hl⟩, rfl⟩ := gIf_some hf
    have HC := Lib.hid (flip_any l n u wb.heap.size P1 w hR hsz hs hl)
    have HF := Lib.hid (And.intro hR (And.intro hB hbase))
    obtain ⟨A, c, rfl⟩ := Kd.R_slice hR
    clear hR hB h0 hbase
    show Calls Try.prog 80 #[.slice A l.length c, .pointer (some ⟨g, 0, none⟩)] w _
    go_enter Try.func80, Try.ntmps80
    go_wp2_with fail
    refine HC.out.mono ?_
    rintro e w1 ⟨v', rfl, hR1, hM1⟩
    have HG := Lib.hid (And.intro hR1 hM1)
    clear hR1 hM1
    go_wp2_with fail
    go_ret
    exact ⟨_, rfl, HG.out.1, HG.out.2.below_own HF.out.2.1 HF.out.2.2, HG.out.2.kept HF.out.1.1⟩
end Go.Proofs.Ytnaefjilcabkoaa
end
section
namespace Go.Proofs.Ytnaefjilcabkoaa
open Go.RowKit Go.Proofs.YtnaefjilcabkoaaW.PrintWords Go.Proofs.YtnaefjilcabkoaaW.PrintLast Go.Proofs.YtnaefjilcabkoaaW.PrintMore
set_option linter.unusedVariables false
set_option linter.unusedSimpArgs false
noncomputable def pB (p : Prop) : Bool := @decide p (Classical.propDecidable _)
theorem pB_iff {p : Prop} : pB p = true ↔ p := by unfold pB; exact @decide_eq_true_iff _ (Classical.propDecidable _)
theorem pB_yes {p : Prop} (h : p) : true = pB p := (pB_iff.2 h).symm
theorem pB_no {p : Prop} (h : ¬ p) : false = pB p := by
  cases e : pB p with
  | true => exact absurd (pB_iff.1 e) h
  | false => rfl
theorem pB_of {b : Bool} {p : Prop} (h : b = true ↔ p) : b = pB p := by
  cases b with
  | true => exact pB_yes (h.1 rfl)
  | false => exact pB_no (fun hp => by have := h.2 hp; cases this)
def ScAt (xs : List Int) (i : Nat) : Prop := ∀ h : i < xs.length, 1 ≤ xs[i] ∧ xs[i] ≤ 99 ∧ ∀ (j : Nat) (hj : j < xs.length), j + 1 = i → xs[j] < xs[i]
def ScOk (xs : List Int) : Prop := xs.length ≤ 24 ∧ ∀ i, ScAt xs i
set_option maxHeartbeats 2000000 in
theorem l1Scopes_any (xs : List Int) (A : Option Addr) (c : Nat) (w : World) (hr : kI.C w A xs.length xs) (hc : xs.length ≤ c) :
    Calls Try.prog 88 #[.slice A xs.length c] w (Ret w (.bool (pB (ScOk xs)))) := by
  have hmax := hr.2.1
  go_enter Try.func88, Try.ntmps88
  go_wp2_with fail
  go_loopg [3] xs.length (fun kq v3 w' => ∃ i : Nat, i ≤ xs.length ∧ xs.length - i ≤ kq ∧ v3 = .int .i64 i ∧ Aside0 (i ≤ 25) ∧ Aside0 (∀ j, j < i → ScAt xs j) ∧ Aside0 (Below w.heap.size w w'))
  case atStart => exact ⟨0, Nat.zero_le _, by omega, rfl, ⟨by omega⟩, ⟨fun j h => absurd h (by omega)⟩, ⟨Below.refl _ _⟩⟩
  case round =>
    obtain ⟨i, hi, hg, rfl, H25, HN, HW⟩ := hrel
    by_cases hlt : i < xs.length
    · have t1 : decide ((i : Int) < (xs.length : Int)) = true := decide_eq_true (by omega)
      by_cases h24 : i ≤ 24
      · have t2 : decide ((i : Int) ≤ 24) = true := decide_eq_true (by omega)
        obtain ⟨ad, e, hcell⟩ := int_at (Kd.C_below hr HW.out) i hlt
        subst e
        have p1 : (0 : Int) ≤ (i : Int) := by omega
        have p2 : (i : Int) < (xs.length : Int) := by omega
        by_cases ha : xs[i] < 1
        · have a1 : decide (xs[i] < 1) = true := decide_eq_true ha
          have HA := Lib.hid ha
          clear ha
          go_wp2_with fail
          go_quiet (fail)
          go_wp2_with fail
          go_ret
          refine ⟨ret_b (pB_no (fun h => ?_)), pw_below_drewN HW.out _⟩
          have := (h.2 i hlt).1
          have := HA.out
          omega
        · have a1 : decide (xs[i] < 1) = false := decide_eq_false ha
          have HA := Lib.hid ha
          clear ha
          by_cases hb : xs[i] > 99
          · have a2 : decide (xs[i] > 99) = true := decide_eq_true hb
            have a3 : decide (99 < xs[i]) = true := decide_eq_true hb
            have HB := Lib.hid hb
            clear hb
            go_wp2_with fail
            go_quiet (fail)
            go_wp2_with fail
            go_ret
            refine ⟨ret_b (pB_no (fun h => ?_)), pw_below_drewN HW.out _⟩
            have := (h.2 i hlt).2.1
            have := HB.out
            omega
          · have a2 : decide (xs[i] > 99) = false := decide_eq_false hb
            have a3 : decide (99 < xs[i]) = false := decide_eq_false hb
            have HB := Lib.hid hb
            clear hb
            by_cases hz : i = 0
            · have z1 : decide ((i : Int) > 0) = false := decide_eq_false (by omega)
              have z2 : decide ((0 : Int) < (i : Int)) = false := decide_eq_false (by omega)
              have z3 : decide (0 < i) = false := decide_eq_false (by omega)
              have HZ := Lib.hid hz
              clear hz
              go_wp2_with fail
              go_quiet (fail)
              go_wp2_with fail
              go_roundg (xs.length - (i + 1))
              case measure => omega
              case rel =>
                refine ⟨i + 1, by omega, Nat.le_refl _, by go_num, ⟨by omega⟩, ⟨fun j hj => ?_⟩, ⟨pw_below_drewN HW.out _⟩⟩
                have h1 := HA.out
                have h2 := HB.out
                have h3 := HZ.out
                obtain rfl : j = i := by omega
                exact fun _ => ⟨by omega, by omega, fun j hj he => absurd he (by omega)⟩
            · obtain ⟨j, hji⟩ : ∃ j, i = j + 1 := ⟨i - 1, by omega⟩
              have hj : j < xs.length := by omega
              obtain ⟨ad3, e3, hcell3⟩ := int_at (Kd.C_below hr HW.out) j hj
              obtain rfl : ad = ad3 := by cases e3; rfl
              have z1 : decide ((i : Int) > 0) = true := decide_eq_true (by omega)
              have z2 : decide ((0 : Int) < (i : Int)) = true := decide_eq_true (by omega)
              have z3 : decide (0 < i) = true := decide_eq_true (by omega)
              have u1 : IntKind.i64.wrap ((i : Int) - 1) = (j : Int) := by rw [show ((i : Int) - 1) = (j : Int) from by omega]; exact IntWalk.i64_in _ (by omega)
              have u2 : (0 : Int) ≤ (j : Int) := by omega
              have u3 : (j : Int) < (xs.length : Int) := by omega
              have HJ := Lib.hid hji
              by_cases hle : xs[i] ≤ xs[j]
              · have c1 : decide (xs[i] ≤ xs[j]) = true := decide_eq_true hle
                have HL := Lib.hid hle
                clear hle hz hji
                go_wp2_with fail
                go_quiet (fail)
                go_wp2_with fail
                go_ret
                refine ⟨ret_b (pB_no (fun h => ?_)), pw_below_drewN HW.out _⟩
                have := (h.2 i hlt).2.2 j hj HJ.out.symm
                have := HL.out
                omega
              · have c1 : decide (xs[i] ≤ xs[j]) = false := decide_eq_false hle
                have HL := Lib.hid hle
                clear hle hz hji
                go_wp2_with fail
                go_quiet (fail)
                go_wp2_with fail
                go_roundg (xs.length - (i + 1))
                case measure => omega
                case rel =>
                  refine ⟨i + 1, by omega, Nat.le_refl _, by go_num, ⟨by omega⟩, ⟨fun q hq => ?_⟩, ⟨pw_below_drewN HW.out _⟩⟩
                  rcases Nat.lt_or_ge q i with h | h
                  · exact HN.out q h
                  · obtain rfl : q = i := by omega
                    have h1 := HA.out
                    have h2 := HB.out
                    have h3 := HL.out
                    have h4 := HJ.out
                    refine fun _ => ⟨by omega, by omega, fun p hp he => ?_⟩
                    obtain rfl : p = j := by omega
                    omega
      · have t2 : decide ((i : Int) ≤ 24) = false := decide_eq_false (by omega)
        have t3 : decide ((xs.length : Int) ≤ 24) = false := decide_eq_false (by omega)
        go_wp2_with fail
        go_ret
        refine ⟨ret_b (pB_no (fun h => ?_)), HW.out⟩
        have := h.1
        omega
    · obtain rfl : i = xs.length := by omega
      have t1 : decide ((xs.length : Int) < (xs.length : Int)) = false := decide_eq_false (by omega)
      by_cases h24 : xs.length ≤ 24
      · have t3 : decide ((xs.length : Int) ≤ 24) = true := decide_eq_true (by omega)
        go_wp2_with fail
        go_ret
        exact ⟨ret_b (pB_yes ⟨h24, fun i h => HN.out i h h⟩), HW.out⟩
      · have t3 : decide ((xs.length : Int) ≤ 24) = false := decide_eq_false (by omega)
        go_wp2_with fail
        go_ret
        exact ⟨ret_b (pB_no (fun h => h24 h.1)), HW.out⟩
set_option maxHeartbeats 2000000 in
theorem scopesOk_any (xs : List Int) (A : Option Addr) (c : Nat) (w : World) (hr : kI.C w A xs.length xs) (hc : xs.length ≤ c) :
    Calls Try.prog 92 #[.slice A xs.length c] w (Ret w (.bool (pB (ScOk xs)))) := by
  have hmax := hr.2.1
  go_enter Try.func92, Try.ntmps92
  go_wp2_with fail
  go_loopg [3, 4, 7] xs.length (fun kq v3 v4 v7 w' => ∃ i : Nat, i ≤ xs.length ∧ xs.length - i ≤ kq ∧ v7 = .int .i64 i ∧ Aside0 (∀ j, j < i → ScAt xs j) ∧ Aside0 (Below w.heap.size w w'))
  case atStart => exact ⟨0, Nat.zero_le _, by omega, rfl, ⟨fun j h => absurd h (by omega)⟩, ⟨Below.refl _ _⟩⟩
  case round =>
    obtain ⟨i, hi, hg, rfl, HN, HW⟩ := hrel
    by_cases hlt : i < xs.length
    · obtain ⟨ad, e, hcell⟩ := int_at (Kd.C_below hr HW.out) i hlt
      subst e
      have HC := Lib.hid (within_any xs[i] 1 99 wr)
      go_wp2_with fail
      refine HC.out.mono ?_
      rintro e w1 ⟨rfl, hb1⟩
      have hW1 := below_step HW.out hb1
      by_cases ha : 1 ≤ xs[i] ∧ xs[i] ≤ 99
      · rw [decide_eq_true ha]
        have HA := Lib.hid ha
        clear ha
        by_cases hz : i = 0
        · have z1 : decide ((i : Int) > 0) = false := decide_eq_false (by omega)
          have z2 : decide ((0 : Int) < (i : Int)) = false := decide_eq_false (by omega)
          have z3 : decide (0 < i) = false := decide_eq_false (by omega)
          have HZ := Lib.hid hz
          have HW1 := Lib.hid hW1
          clear hz hW1 hb1
          go_wp2_with fail
          go_roundg (xs.length - (i + 1))
          case measure => omega
          case rel =>
            refine ⟨i + 1, by omega, Nat.le_refl _, by go_num, ⟨fun q hq => ?_⟩, ⟨HW1.out⟩⟩
            have h1 := HA.out
            have h3 := HZ.out
            obtain rfl : q = i := by omega
            exact fun _ => ⟨h1.1, h1.2, fun j hj he => absurd he (by omega)⟩
        · obtain ⟨j, hji⟩ : ∃ j, i = j + 1 := ⟨i - 1, by omega⟩
          have hj : j < xs.length := by omega
          obtain ⟨ad3, e3, hcell3⟩ := int_at (Kd.C_below hr hW1) j hj
          obtain rfl : ad = ad3 := by cases e3; rfl
          have z1 : decide ((i : Int) > 0) = true := decide_eq_true (by omega)
          have z2 : decide ((0 : Int) < (i : Int)) = true := decide_eq_true (by omega)
          have z3 : decide (0 < i) = true := decide_eq_true (by omega)
          have u1 : IntKind.i64.wrap ((i : Int) - 1) = (j : Int) := by rw [show ((i : Int) - 1) = (j : Int) from by omega]; exact IntWalk.i64_in _ (by omega)
          have u2 : (0 : Int) ≤ (j : Int) := by omega
          have u3 : (j : Int) < (xs.length : Int) := by omega
          have u4 : (i : Int) - 1 = (j : Int) := by omega
          have HJ := Lib.hid hji
          have HW1 := Lib.hid hW1
          by_cases hle : xs[i] ≤ xs[j]
          · have c1 : decide (xs[j] ≥ xs[i]) = true := decide_eq_true hle
            have c2 : decide (xs[i] ≤ xs[j]) = true := decide_eq_true hle
            have HL := Lib.hid hle
            clear hle hz hji hW1 hb1
            go_wp2_with fail
            go_ret
            refine ⟨ret_b (pB_no (fun h => ?_)), HW1.out⟩
            have := (h.2 i hlt).2.2 j hj HJ.out.symm
            have := HL.out
            omega
          · have c1 : decide (xs[j] ≥ xs[i]) = false := decide_eq_false hle
            have c2 : decide (xs[i] ≤ xs[j]) = false := decide_eq_false hle
            have HL := Lib.hid hle
            clear hle hz hji hW1 hb1
            go_wp2_with fail
            go_roundg (xs.length - (i + 1))
            case measure => omega
            case rel =>
              refine ⟨i + 1, by omega, Nat.le_refl _, by go_num, ⟨fun q hq => ?_⟩, ⟨HW1.out⟩⟩
              rcases Nat.lt_or_ge q i with h | h
              · exact HN.out q h
              · obtain rfl : q = i := by omega
                have h1 := HA.out
                have h3 := HL.out
                have h4 := HJ.out
                refine fun _ => ⟨h1.1, h1.2, fun p hp he => ?_⟩
                obtain rfl : p = j := by omega
                omega
      · rw [decide_eq_false ha]
        have HA := Lib.hid ha
        have HW1 := Lib.hid hW1
        clear ha hW1 hb1
        go_wp2_with fail
        go_ret
        exact ⟨ret_b (pB_no (fun h => HA.out ⟨(h.2 i hlt).1, (h.2 i hlt).2.1⟩)), HW1.out⟩
    · obtain rfl : i = xs.length := by omega
      by_cases h24 : xs.length ≤ 24
      · have t3 : decide ((xs.length : Int) ≤ 24) = true := decide_eq_true (by omega)
        go_wp2_with fail
        go_ret
        exact ⟨ret_b (pB_yes ⟨h24, fun i h => HN.out i h h⟩), HW.out⟩
      · have t3 : decide ((xs.length : Int) ≤ 24) = false := decide_eq_false (by omega)
        go_wp2_with fail
        go_ret
        exact ⟨ret_b (pB_no (fun h => h24 h.1)), HW.out⟩
end Go.Proofs.Ytnaefjilcabkoaa
end
section
namespace Go.Proofs.Ytnaefjilcabkoaa
open Go.RowKit Go.Proofs.YtnaefjilcabkoaaW.PrintWords Go.Proofs.YtnaefjilcabkoaaW.PrintLast Go.Proofs.YtnaefjilcabkoaaW.PrintMore
set_option linter.unusedVariables false
set_option linter.unusedSimpArgs false
set_option maxRecDepth 100000

def letterB (c : Int) : Bool := (decide (97 ≤ c) && decide (c ≤ 122)) || c == 42 || c == 63 || c == 61 || c == 43 || c == 60
def digitB (c : Int) : Bool := (decide (48 ≤ c) && decide (c ≤ 57)) || c == 45
theorem l1Letter_any (c : Int) (first : Bool) (w : World) (h0 : 0 ≤ c) (h1 : c < 256) : Calls Try.prog 125 #[.int .u8 c, .bool first] w (Ret w (.bool (letterB c || (!first && digitB c)))) := by
  go_enter Try.func125, Try.ntmps125
  go_wp2
  all_goals
    go_ret
    refine ⟨ret_b ?_, Below.refl _ _⟩
    first
    | rfl
    | (rw [Bool.eq_iff_iff]; simp_all [letterB, digitB]; done)
    | (rw [Bool.eq_iff_iff]; simp_all [letterB, digitB]; omega)
    | (cases first <;> rw [Bool.eq_iff_iff] <;> simp_all [letterB, digitB] <;> omega)
/-- What a valid name is. -/
def NmOk (s : ByteArray) : Prop := s.toList = [46, 46, 46] ∨ s.toList = [95] ∨ (1 ≤ s.size ∧ s.size ≤ 12 ∧ ∀ i (h : i < s.size), (letterB s[i].toNat || (!((i : Int) == 0) && digitB s[i].toNat)) = true)
noncomputable def nmB (s : ByteArray) : Bool := @decide (NmOk s) (Classical.propDecidable _)
theorem nmB_iff (s : ByteArray) : nmB s = true ↔ NmOk s := by unfold nmB; exact @decide_eq_true_iff _ (Classical.propDecidable _)
theorem nmB_t {s : ByteArray} (h : NmOk s) : true = nmB s := ((nmB_iff s).2 h).symm
theorem nmB_f {s : ByteArray} (h : ¬ NmOk s) : false = nmB s := by
  cases hb : nmB s with
  | true => exact absurd ((nmB_iff s).1 hb) h
  | false => rfl
theorem byte_lt (s : ByteArray) (i : Nat) (h : i < s.size) : 0 ≤ (s[i].toNat : Int) ∧ (s[i].toNat : Int) < 256 := ⟨by omega, by have := s[i].toNat_lt; omega⟩

set_option maxHeartbeats 2000000 in
theorem specName_any (s : ByteArray) (w : World) (hs : s.size ≤ 140737488351232) : Calls Try.prog 87 #[.string s] w (Ret w (.bool (nmB s))) := by
  by_cases h1 : s.toList = [46, 46, 46]
  · have h1' : (s.toList == [46, 46, 46]) = true := by rw [h1]; rfl
    have H := Lib.hid (nmB_t (s := s) (.inl h1))
    clear h1
    go_enter Try.func87, Try.ntmps87
    go_wp2_with fail
    go_ret
    exact ⟨ret_b H.out, Below.refl _ _⟩
  by_cases h2 : s.toList = [95]
  · have h1' : (s.toList == [46, 46, 46]) = false := by simpa using h1
    have h2' : (s.toList == [95]) = true := by rw [h2]; rfl
    have H := Lib.hid (nmB_t (s := s) (.inr (.inl h2)))
    clear h1 h2
    go_enter Try.func87, Try.ntmps87
    go_wp2_with fail
    go_ret
    exact ⟨ret_b H.out, Below.refl _ _⟩
  have h1' : (s.toList == [46, 46, 46]) = false := by simpa using h1
  have h2' : (s.toList == [95]) = false := by simpa using h2
  have H1 := Lib.hid h1
  have H2 := Lib.hid h2
  clear h1 h2
  go_enter Try.func87, Try.ntmps87
  go_wp2_with fail
  go_loopg [3] s.size (fun kq v3 w' => ∃ i : Nat, i ≤ s.size ∧ s.size - i ≤ kq ∧ v3 = .int .i64 i ∧ Aside0 (∀ j (h : j < s.size), j < i → (letterB s[j].toNat || (!((j : Int) == 0) && digitB s[j].toNat)) = true) ∧ Aside0 (Below w.heap.size w w'))
  case atStart => exact ⟨0, Nat.zero_le _, by omega, rfl, ⟨fun j _ h => absurd h (by omega)⟩, ⟨Below.refl _ _⟩⟩
  case round =>
    obtain ⟨i, hi, hg, rfl, HN, HW⟩ := hrel
    by_cases hlt : i < s.size
    · by_cases h12 : i ≤ 12
      · have hd : decide ((i : Int) ≤ 12) = true := decide_eq_true (by omega)
        have hd1 : decide ((i : Int) < (s.size : Int)) = true := decide_eq_true (by omega)
        have HC := Lib.hid (l1Letter_any (s[i].toNat : Int) ((i : Int) == 0) wr (byte_lt s i hlt).1 (byte_lt s i hlt).2)
        go_wp2_with fail
        refine HC.out.mono ?_
        rintro e w1 ⟨rfl, hb1⟩
        cases hb : (letterB s[i].toNat || (!((i : Int) == 0) && digitB s[i].toNat)) with
        | true =>
          have HB := Lib.hid hb
          clear hb
          go_wp2_with fail
          go_roundg (s.size - (i + 1))
          case measure => omega
          case rel =>
            refine ⟨i + 1, by omega, Nat.le_refl _, by go_num, ⟨fun j hj hji => ?_⟩, ⟨below_step HW.out hb1⟩⟩
            rcases Nat.lt_or_ge j i with h | h
            · exact HN.out j hj h
            · obtain rfl : j = i := by omega
              exact HB.out
        | false =>
          have HB := Lib.hid hb
          clear hb
          go_wp2_with fail
          go_ret
          refine ⟨ret_b (nmB_f ?_), below_step HW.out hb1⟩
          rintro (h | h | ⟨_, _, h⟩)
          · exact H1.out h
          · exact H2.out h
          · have := h i hlt
            rw [HB.out] at this
            cases this
      · have hd : decide ((i : Int) ≤ 12) = false := decide_eq_false (by omega)
        have hd1 : decide ((i : Int) < (s.size : Int)) = true := decide_eq_true (by omega)
        have hd2 : decide (1 ≤ (s.size : Int)) = true := decide_eq_true (by omega)
        have hd3 : decide ((s.size : Int) ≤ 12) = false := decide_eq_false (by omega)
        have HL := Lib.hid (show 12 < s.size by omega)
        go_wp2_with fail
        go_ret
        refine ⟨ret_b (nmB_f ?_), HW.out⟩
        rintro (h | h | ⟨_, h, _⟩)
        · exact H1.out h
        · exact H2.out h
        · have := HL.out
          omega
    · obtain rfl : i = s.size := by omega
      by_cases g1 : 1 ≤ s.size
      · have hd2 : decide (1 ≤ (s.size : Int)) = true := decide_eq_true (by omega)
        by_cases g2 : s.size ≤ 12
        · have hd3 : decide ((s.size : Int) ≤ 12) = true := decide_eq_true (by omega)
          have H := Lib.hid (nmB_t (s := s) (.inr (.inr ⟨g1, g2, fun i h => HN.out i h h⟩)))
          go_wp2_with fail
          go_ret
          exact ⟨ret_b H.out, HW.out⟩
        · have hd3 : decide ((s.size : Int) ≤ 12) = false := decide_eq_false (by omega)
          have H := Lib.hid (nmB_f (s := s) (by
            rintro (h | h | ⟨_, h, _⟩)
            · exact H1.out h
            · exact H2.out h
            · omega))
          go_wp2_with fail
          go_ret
          exact ⟨ret_b H.out, HW.out⟩
      · have hd2 : decide (1 ≤ (s.size : Int)) = false := decide_eq_false (by omega)
        have H := Lib.hid (nmB_f (s := s) (by
            rintro (h | h | ⟨h, _, _⟩)
            · exact H1.out h
            · exact H2.out h
            · omega))
        go_wp2_with fail
        go_ret
        exact ⟨ret_b H.out, HW.out⟩
theorem bytealgIndex_any (s : ByteArray) (c : Int) (w : World) : Calls Try.prog 147 #[.string s, .int .u8 c] w fun e w' => e = .returned (.int .i64 (Lib.indexByte s.data.toList c.toNat.toUInt8)) ∧ w' = w := by
  go_enter Try.func147, Try.ntmps147
  go_wp2
  rw [run_callFunc_extern Try.func158 (by kernel_rfl) (by kernel_rfl) (by kernel_rfl) (e := Extern.BytealgIndexByte.indexByte) (by kernel_rfl), Lib.run_indexByteString]
  simp only [Result.andThen]
  rw [Oper.upon_value]
  go_wp2
  go_ret
  exact ⟨rfl, rfl⟩
theorem indexByte_any (s : ByteArray) (c : Int) (w : World) : Calls Try.prog 126 #[.string s, .int .u8 c] w fun e w' => e = .returned (.int .i64 (Lib.indexByte s.data.toList c.toNat.toUInt8)) ∧ w' = w := by
  go_enter Try.func126, Try.ntmps126
  go_wp2_with fail
  refine (bytealgIndex_any s c w).mono ?_
  rintro e w1 ⟨rfl, rfl⟩
  go_wp2_with fail
  go_ret
  exact ⟨rfl, rfl⟩
theorem signs_tab : ∀ n : Fin 256, decide (0 ≤ Lib.indexByte [42, 63, 61, 43, 60] (n : Nat).toUInt8) = (decide ((n : Nat) = 42) || decide ((n : Nat) = 63) || decide ((n : Nat) = 61) || decide ((n : Nat) = 43) || decide ((n : Nat) = 60)) := by decide +kernel
theorem signs (c : Int) (h0 : 0 ≤ c) (h1 : c < 256) : decide (0 ≤ Lib.indexByte [42, 63, 61, 43, 60] c.toNat.toUInt8) = (c == 42 || c == 63 || c == 61 || c == 43 || c == 60) := by
  have h := signs_tab ⟨c.toNat, by omega⟩
  simp only at h
  rw [h, Bool.eq_iff_iff]
  simp
  omega
set_option maxHeartbeats 4000000 in
theorem implName_any (s : ByteArray) (w : World) (hs : s.size ≤ 140737488351232) : Calls Try.prog 91 #[.string s] w (Ret w (.bool (nmB s))) := by
  by_cases h1 : s.toList = [46, 46, 46]
  · have h1' : (s.toList == [46, 46, 46]) = true := by rw [h1]; rfl
    have H := Lib.hid (nmB_t (s := s) (.inl h1))
    clear h1
    go_enter Try.func91, Try.ntmps91
    go_wp2_with fail
    go_ret
    exact ⟨ret_b H.out, Below.refl _ _⟩
  by_cases h2 : s.toList = [95]
  · have h1' : (s.toList == [46, 46, 46]) = false := by simpa using h1
    have h2' : (s.toList == [95]) = true := by rw [h2]; rfl
    have H := Lib.hid (nmB_t (s := s) (.inr (.inl h2)))
    clear h1 h2
    go_enter Try.func91, Try.ntmps91
    go_wp2_with fail
    go_ret
    exact ⟨ret_b H.out, Below.refl _ _⟩
  have h1' : (s.toList == [46, 46, 46]) = false := by simpa using h1
  have h2' : (s.toList == [95]) = false := by simpa using h2
  have H1 := Lib.hid h1
  have H2 := Lib.hid h2
  clear h1 h2
  go_enter Try.func91, Try.ntmps91
  go_wp2_with fail
  go_loopg [3, 4] s.size (fun kq v3 v4 w' => ∃ i : Nat, i ≤ s.size ∧ s.size - i ≤ kq ∧ v3 = .int .i64 i ∧ Aside0 (∀ j (h : j < s.size), j < i → (letterB s[j].toNat || (!((j : Int) == 0) && digitB s[j].toNat)) = true) ∧ Aside0 (Below w.heap.size w w'))
  case atStart => exact ⟨0, Nat.zero_le _, by omega, rfl, ⟨fun j _ h => absurd h (by omega)⟩, ⟨Below.refl _ _⟩⟩
  case round =>
    obtain ⟨i, hi, hg, rfl, HN, HW⟩ := hrel
    by_cases hlt : i < s.size
    · have hd1 : decide ((i : Int) < (s.size : Int)) = true := decide_eq_true (by omega)
      obtain ⟨hc0, hc1⟩ := byte_lt s i hlt
      have HS := Lib.hid (signs (s[i].toNat : Int) hc0 hc1)
      have HK : Hid ((letterB s[i].toNat || (!((i : Int) == 0) && digitB s[i].toNat)) = true → ∀ j (h : j < s.size), j < i + 1 → (letterB s[j].toNat || (!((j : Int) == 0) && digitB s[j].toNat)) = true) := Lib.hid (fun hb j hj hji => by
        rcases Nat.lt_or_ge j i with h | h
        · exact HN.out j hj h
        · obtain rfl : j = i := by omega
          exact hb)
      have HF : Hid ((letterB s[i].toNat || (!((i : Int) == 0) && digitB s[i].toNat)) = false → false = nmB s) := Lib.hid (fun hb => nmB_f (by
          rintro (h | h | ⟨_, _, h⟩)
          · exact H1.out h
          · exact H2.out h
          · have := h i hlt
            rw [hb] at this
            cases this))
      clear HN
      have hI : ∀ W, Calls Try.prog 126 #[.string ⟨#[42, 63, 61, 43, 60]⟩, .int .u8 (s[i].toNat : Int)] W (fun e w' => e = .returned (.int .i64 (Lib.indexByte [42, 63, 61, 43, 60] (s[i].toNat : Int).toNat.toUInt8)) ∧ w' = W) := fun W => indexByte_any _ _ W
      have HI := Lib.hid hI
      clear hI
      generalize Lib.indexByte [42, 63, 61, 43, 60] (s[i].toNat : Int).toNat.toUInt8 = r at HI HS
      by_cases hA : 97 ≤ (s[i].toNat : Int) ∧ (s[i].toNat : Int) ≤ 122
      · obtain ⟨a1, a2⟩ := hA
        have HG := Lib.hid (show (letterB (s[i].toNat : Int) || (!((i : Int) == 0) && digitB (s[i].toNat : Int))) = true by simp [letterB, a1, a2])
        have a1' := decide_eq_true a1
        have a2' := decide_eq_true a2
        go_wp2_with fail
        go_roundg (s.size - (i + 1))
        case measure => omega
        case rel => exact ⟨i + 1, by omega, Nat.le_refl _, by go_num, ⟨HK.out HG.out⟩, ⟨HW.out⟩⟩
      · have hA' : (decide (97 ≤ (s[i].toNat : Int)) && decide ((s[i].toNat : Int) ≤ 122)) = false := by rw [Bool.eq_false_iff]; simp; omega
        have HA := Lib.hid hA'
        clear hA'
        by_cases a1 : 97 ≤ (s[i].toNat : Int)
        · have a2 : 122 < (s[i].toNat : Int) := by omega
          clear hA
          have a1' := decide_eq_true a1
          have a2' : decide ((s[i].toNat : Int) ≤ 122) = false := decide_eq_false (by omega)
          go_wp2_with fail
          refine (HI.out wr).mono ?_
          rintro e w1 ⟨rfl, rfl⟩
          by_cases hr : 0 ≤ r
          · have HG := Lib.hid (show (letterB (s[i].toNat : Int) || (!((i : Int) == 0) && digitB (s[i].toNat : Int))) = true by
              have := HS.out; rw [decide_eq_true hr] at this; unfold letterB; rw [HA.out]; simp at this ⊢; left; omega)
            have hr' := decide_eq_true hr
            go_wp2_with fail
            go_roundg (s.size - (i + 1))
            case measure => omega
            case rel => exact ⟨i + 1, by omega, Nat.le_refl _, by go_num, ⟨HK.out HG.out⟩, ⟨HW.out⟩⟩
          · have hr' : decide (0 ≤ r) = false := decide_eq_false hr
            have HG := Lib.hid (show (letterB (s[i].toNat : Int) || (!((i : Int) == 0) && digitB (s[i].toNat : Int))) = false by
              have := HS.out; rw [decide_eq_false hr] at this; unfold letterB digitB; rw [HA.out]; simp at this ⊢; omega)
            have e45 : ((s[i].toNat : Int) == 45) = false := by simp; omega
            have e48 : decide (48 ≤ (s[i].toNat : Int)) = true := decide_eq_true (by omega)
            have e57 : decide ((s[i].toNat : Int) ≤ 57) = false := decide_eq_false (by omega)
            by_cases i0 : 0 < i
            · have i0' : decide ((0 : Int) < (i : Int)) = true := decide_eq_true (by omega)
              go_wp2_with fail
              go_ret
              exact ⟨ret_b (HF.out HG.out), HW.out⟩
            · have i0' : decide ((0 : Int) < (i : Int)) = false := decide_eq_false (by omega)
              go_wp2_with fail
              go_ret
              exact ⟨ret_b (HF.out HG.out), HW.out⟩
        · have a1' : decide (97 ≤ (s[i].toNat : Int)) = false := decide_eq_false a1
          clear hA
          go_wp2_with fail
          refine (HI.out wr).mono ?_
          rintro e w1 ⟨rfl, rfl⟩
          by_cases hr : 0 ≤ r
          · have HG := Lib.hid (show (letterB (s[i].toNat : Int) || (!((i : Int) == 0) && digitB (s[i].toNat : Int))) = true by
              have := HS.out; rw [decide_eq_true hr] at this; unfold letterB; rw [HA.out]; simp at this ⊢; left; omega)
            have hr' := decide_eq_true hr
            go_wp2_with fail
            go_roundg (s.size - (i + 1))
            case measure => omega
            case rel => exact ⟨i + 1, by omega, Nat.le_refl _, by go_num, ⟨HK.out HG.out⟩, ⟨HW.out⟩⟩
          · have hr' : decide (0 ≤ r) = false := decide_eq_false hr
            have HL := Lib.hid (show letterB (s[i].toNat : Int) = false by
              have := HS.out; rw [decide_eq_false hr] at this; unfold letterB; rw [HA.out]; simp at this ⊢; omega)
            by_cases i0 : 0 < i
            · have i0' : decide ((0 : Int) < (i : Int)) = true := decide_eq_true (by omega)
              have HZ := Lib.hid (show ((i : Int) == 0) = false by simp; omega)
              by_cases hD : digitB (s[i].toNat : Int) = true
              · have HG := Lib.hid (show (letterB (s[i].toNat : Int) || (!((i : Int) == 0) && digitB (s[i].toNat : Int))) = true by rw [hD, HZ.out]; simp)
                by_cases d48 : 48 ≤ (s[i].toNat : Int)
                · have d57 : (s[i].toNat : Int) ≤ 57 := by simp [digitB, d48] at hD; omega
                  have d48' := decide_eq_true d48
                  have d57' := decide_eq_true d57
                  clear hD
                  go_wp2_with fail
                  go_roundg (s.size - (i + 1))
                  case measure => omega
                  case rel => exact ⟨i + 1, by omega, Nat.le_refl _, by go_num, ⟨HK.out HG.out⟩, ⟨HW.out⟩⟩
                · have d45 : ((s[i].toNat : Int) == 45) = true := by simp [digitB, d48] at hD; simp; omega
                  have d48' : decide (48 ≤ (s[i].toNat : Int)) = false := decide_eq_false d48
                  clear hD
                  go_wp2_with fail
                  go_roundg (s.size - (i + 1))
                  case measure => omega
                  case rel => exact ⟨i + 1, by omega, Nat.le_refl _, by go_num, ⟨HK.out HG.out⟩, ⟨HW.out⟩⟩
              · have HG := Lib.hid (show (letterB (s[i].toNat : Int) || (!((i : Int) == 0) && digitB (s[i].toNat : Int))) = false by rw [HL.out, Bool.eq_false_iff.2 hD]; simp)
                have d45 : ((s[i].toNat : Int) == 45) = false := by simp [digitB] at hD; simp; omega
                by_cases d48 : 48 ≤ (s[i].toNat : Int)
                · have d57' : decide ((s[i].toNat : Int) ≤ 57) = false := decide_eq_false (by simp [digitB, d48] at hD; omega)
                  have d48' := decide_eq_true d48
                  clear hD
                  go_wp2_with fail
                  go_ret
                  exact ⟨ret_b (HF.out HG.out), HW.out⟩
                · have d48' : decide (48 ≤ (s[i].toNat : Int)) = false := decide_eq_false d48
                  clear hD
                  go_wp2_with fail
                  go_ret
                  exact ⟨ret_b (HF.out HG.out), HW.out⟩
            · have i0' : decide ((0 : Int) < (i : Int)) = false := decide_eq_false (by omega)
              have HG := Lib.hid (show (letterB (s[i].toNat : Int) || (!((i : Int) == 0) && digitB (s[i].toNat : Int))) = false by
                obtain rfl : i = 0 := by omega
                rw [HL.out]; simp)
              go_wp2_with fail
              go_ret
              exact ⟨ret_b (HF.out HG.out), HW.out⟩
    · obtain rfl : i = s.size := by omega
      have HX : Hid (decide (1 ≤ (s.size : Int) ∧ (s.size : Int) ≤ 12) = nmB s) := Lib.hid (by
        by_cases g : 1 ≤ s.size ∧ s.size ≤ 12
        · rw [decide_eq_true (by omega)]
          exact nmB_t (.inr (.inr ⟨g.1, g.2, fun i h => HN.out i h h⟩))
        · rw [decide_eq_false (by omega)]
          refine nmB_f ?_
          rintro (h | h | ⟨h, h', _⟩)
          · exact H1.out h
          · exact H2.out h
          · omega)
      go_wp2_with fail
      refine (within_any _ _ _ _).mono ?_
      rintro e w1 ⟨rfl, hb1⟩
      rw [HX.out]
      go_wp2_with fail
      go_ret
      exact ⟨rfl, below_step HW.out hb1⟩
end Go.Proofs.Ytnaefjilcabkoaa
end
section
namespace Go.Proofs.Ytnaefjilcabkoaa
open Go.RowKit Go.Proofs.YtnaefjilcabkoaaW.PrintWords Go.Proofs.YtnaefjilcabkoaaW.PrintLast Go.Proofs.YtnaefjilcabkoaaW.PrintMore
set_option linter.unusedVariables false
set_option linter.unusedSimpArgs false
set_option maxHeartbeats 1000000 in
theorem l1Count_any : ∀ (x : Fm) (A3 : Option Addr) (c3 : Nat) (A4 : Option Addr) (c4 : Nat) (w : World), FmIn w x A3 c3 A4 c4 → x.size < 4611686018427387904 →
    Calls Try.prog 115 #[.agg #[.int .i64 x.f0, .string x.f1, .int .i64 x.f2, .slice A3 x.f3.length c3, .slice A4 x.f4.length c4]] w (Ret w (.int .i64 x.size)) := by
  intro x
  induction x using Fm.ind with
  | h x ih =>
    intro A3 c3 A4 c4 w hin hsz
    have hmax := hin.g4.2.1
    have hse := Fm.size_eq x
    have HS := Lib.hid hse
    have hszl : sizes x.f4 < 4611686018427387904 := by omega
    clear hse hsz
    go_enter Try.func115, Try.ntmps115
    go_wp2_with fail
    go_loopg [3, 4] x.f4.length (fun kq v3 v4 w' => ∃ i : Nat, i ≤ x.f4.length ∧ x.f4.length - i ≤ kq ∧ v4 = .int .i64 i ∧ v3 = .int .i64 ((1 + sizes (x.f4.take i) : Nat) : Int) ∧ Aside0 (w'.heap[w.heap.size]? = some (.cells #[.int .i64 x.f0, .string x.f1, .int .i64 x.f2, .slice A3 x.f3.length c3, .slice A4 x.f4.length c4] 29 (0, 0))) ∧ Aside0 (Below w.heap.size w w'))
    case atStart => exact ⟨0, Nat.zero_le _, by omega, rfl, by simp [sizes], ⟨blk_new w _⟩, ⟨below_new w _⟩⟩
    case round =>
      obtain ⟨i, hi, hg, rfl, rfl, HB, HW⟩ := hrel
      obtain ⟨q0, q1, q2, q3, q4⟩ := fm_cells HB.out
      by_cases hlt : i < x.f4.length
      · obtain ⟨ad, B3, d3, B4, d4, e, h0, h1, h2, h3, h4, hk⟩ := kid_at (Kd.C_below hin.g4 HW.out) i hlt
        have hle := sizes_take_le x.f4 (i + 1)
        rw [sizes_take _ _ hlt] at hle
        have HC := Lib.hid (ih x.f4[i] (List.getElem_mem hlt) B3 d3 B4 d4 wr hk (by omega))
        clear hk ih
        subst e
        go_wp2_with fail
        refine HC.out.mono ?_
        rintro e w1 ⟨rfl, hb1⟩
        go_wp2_with fail
        go_roundg (x.f4.length - (i + 1))
        case measure => omega
        case rel =>
          refine ⟨i + 1, by omega, Nat.le_refl _, by go_num, ?_, ⟨blk_below HB.out hb1⟩, ⟨below_step HW.out hb1⟩⟩
          rw [sizes_take _ _ hlt]; go_num
      · have he : i = x.f4.length := by omega
        subst he
        go_wp2_with fail
        go_ret
        refine ⟨?_, HW.out⟩
        rw [List.take_length, HS.out]
        rfl
end Go.Proofs.Ytnaefjilcabkoaa
end
section
namespace Go.Proofs.Ytnaefjilcabkoaa
open Go.RowKit Go.Proofs.YtnaefjilcabkoaaW.PrintWords Go.Proofs.YtnaefjilcabkoaaW.PrintLast Go.Proofs.YtnaefjilcabkoaaW.PrintMore
set_option linter.unusedVariables false
set_option linter.unusedSimpArgs false
def IsOk : Nat → Fm → Prop
  | 0, _ => False
  | n + 1, x => (x.f0 = 1 ∧ NmOk x.f1 ∧ x.f2 = 0 ∧ ScOk x.f3 ∧ x.f4.length = 0) ∨ (x.f0 = 2 ∧ x.f1.toList = [] ∧ 0 ≤ x.f2 ∧ x.f2 ≤ 999 ∧ x.f3.length = 0 ∧ x.f4.length = 0) ∨ (x.f0 = 3 ∧ x.f1.toList = [] ∧ x.f2 = 0 ∧ x.f3.length = 0 ∧ ∀ k, k ∈ x.f4 → IsOk n k)
theorem isOk1 {n : Nat} {x : Fm} (h : x.f0 = 1) : IsOk (n + 1) x ↔ NmOk x.f1 ∧ x.f2 = 0 ∧ ScOk x.f3 ∧ x.f4.length = 0 := by
  unfold IsOk
  constructor
  · rintro (⟨_, h⟩ | ⟨h2, _⟩ | ⟨h2, _⟩)
    · exact h
    · omega
    · omega
  · exact fun h2 => .inl ⟨h, h2⟩
theorem isOk2 {n : Nat} {x : Fm} (h : x.f0 = 2) : IsOk (n + 1) x ↔ x.f1.toList = [] ∧ 0 ≤ x.f2 ∧ x.f2 ≤ 999 ∧ x.f3.length = 0 ∧ x.f4.length = 0 := by
  unfold IsOk
  constructor
  · rintro (⟨h2, _⟩ | ⟨_, h⟩ | ⟨h2, _⟩)
    · omega
    · exact h
    · omega
  · exact fun h2 => .inr (.inl ⟨h, h2⟩)
theorem isOk3 {n : Nat} {x : Fm} (h1 : x.f0 ≠ 1) (h2 : x.f0 ≠ 2) : IsOk (n + 1) x ↔ x.f0 = 3 ∧ x.f1.toList = [] ∧ x.f2 = 0 ∧ x.f3.length = 0 ∧ ∀ k, k ∈ x.f4 → IsOk n k := by
  conv => lhs; unfold IsOk
  constructor
  · rintro (⟨h, _⟩ | ⟨h, _⟩ | h)
    · exact absurd h h1
    · exact absurd h h2
    · exact h
  · exact fun h => .inr (.inr h)
theorem name_size {x : Fm} (h : x.tot ≤ 1048576) : x.f1.size ≤ 140737488351232 := by rw [Fm.tot_eq] at h; omega
theorem kid_tot {x k : Fm} (h : x.tot ≤ 1048576) (hk : k ∈ x.f4) : k.tot ≤ 1048576 := by
  have := totL_mem hk
  rw [Fm.tot_eq] at h
  omega
set_option maxHeartbeats 4000000 in
set_option maxRecDepth 100000 in
theorem l1Is_any : ∀ (n : Nat) (x : Fm) (A3 : Option Addr) (c3 : Nat) (A4 : Option Addr) (c4 : Nat) (m : Int) (w : World), m = n → n ≤ 1000 → FmIn w x A3 c3 A4 c4 → x.tot ≤ 1048576 →
    Calls Try.prog 114 #[.agg #[.int .i64 x.f0, .string x.f1, .int .i64 x.f2, .slice A3 x.f3.length c3, .slice A4 x.f4.length c4], .int .i64 m] w (Ret w (.bool (pB (IsOk n x)))) := by
  intro n
  induction n with
  | zero =>
    intro x A3 c3 A4 c4 m w hm hn hin ht
    have tm : (m == 0) = true := by rw [beq_iff_eq]; omega
    clear hin ht hm
    go_enter Try.func114, Try.ntmps114
    go_wp2_with fail
    go_ret
    exact ⟨ret_b (pB_no (fun h => h)), below_new w _⟩
  | succ n ih =>
    intro x A3 c3 A4 c4 m w hm hn hin ht
    have tm : (m == 0) = false := by rw [beq_eq_false_iff_ne]; omega
    have m1 : -1000 ≤ m := by omega
    have m2 : m ≤ 1001 := by omega
    have HM := Lib.hid hm
    have HI := Lib.hid hin
    have HT := Lib.hid ht
    have IH := Lib.hid ih
    have hmax := hin.g4.2.1
    have HN := Lib.hid (specName_any x.f1 (w.alloc (.cells #[.int .i64 x.f0, .string x.f1, .int .i64 x.f2, .slice A3 x.f3.length c3, .slice A4 x.f4.length c4] 29)) (name_size ht))
    clear hm hin ht ih hn
    by_cases k1 : x.f0 = 1
    · have e1 : (x.f0 == 1) = true := by simpa using k1
      have K1 := Lib.hid k1
      clear k1
      go_enter Try.func114, Try.ntmps114
      go_wp2_with fail
      refine HN.out.mono ?_
      rintro e w1 ⟨rfl, hb1⟩
      obtain ⟨z1, b1⟩ := one_new hb1
      obtain ⟨p0, p1, p2, p3, p4⟩ := fm_cells z1
      have B1 := Lib.hid b1
      have HS := Lib.hid (l1Scopes_any x.f3 A3 c3 w1 (Kd.C_below HI.out.g3 b1) HI.out.l3)
      clear hb1 b1
      cases hq : nmB x.f1 with
      | false =>
        have HQ := Lib.hid hq
        clear hq
        go_wp2_with fail
        go_ret
        exact ⟨ret_b (pB_no (fun h => by have := nmB_t ((isOk1 K1.out).1 h).1; rw [HQ.out] at this; cases this)), B1.out⟩
      | true =>
        have HQ := Lib.hid hq
        clear hq
        by_cases h2 : x.f2 = 0
        · have t2 : (x.f2 == 0) = true := by simpa using h2
          have H2 := Lib.hid h2
          clear h2
          go_wp2_with fail
          refine HS.out.mono ?_
          rintro e w2 ⟨rfl, hb2⟩
          have z2 := blk_below z1 hb2
          have B2 := Lib.hid (below_step B1.out hb2)
          clear hb2 z1 p0 p1 p2 p3 p4
          obtain ⟨p0, p1, p2, p3, p4⟩ := fm_cells z2
          cases hq : pB (ScOk x.f3) with
          | false =>
            have HQ2 := Lib.hid hq
            clear hq
            go_wp2_with fail
            go_ret
            exact ⟨ret_b (pB_no (fun h => by have := pB_yes ((isOk1 K1.out).1 h).2.2.1; rw [HQ2.out] at this; cases this)), B2.out⟩
          | true =>
            have HQ2 := Lib.hid hq
            clear hq
            by_cases h3 : x.f4.length = 0
            · have t3 : ((x.f4.length : Int) == 0) = true := by rw [beq_iff_eq]; omega
              have H3 := Lib.hid h3
              clear h3
              go_wp2_with fail
              go_ret
              exact ⟨ret_b (pB_yes ((isOk1 K1.out).2 ⟨(nmB_iff _).1 HQ.out, H2.out, pB_iff.1 HQ2.out, H3.out⟩)), B2.out⟩
            · have t3 : ((x.f4.length : Int) == 0) = false := by rw [beq_eq_false_iff_ne]; omega
              have H3 := Lib.hid h3
              clear h3
              go_wp2_with fail
              go_ret
              exact ⟨ret_b (pB_no (fun h => H3.out ((isOk1 K1.out).1 h).2.2.2)), B2.out⟩
        · have t2 : (x.f2 == 0) = false := by simpa using h2
          have H2 := Lib.hid h2
          clear h2
          go_wp2_with fail
          go_ret
          exact ⟨ret_b (pB_no (fun h => H2.out ((isOk1 K1.out).1 h).2.1)), B1.out⟩
    · have e1 : (x.f0 == 1) = false := by simpa using k1
      have K1 := Lib.hid k1
      clear k1 HN
      by_cases k2 : x.f0 = 2
      · have e2 : (x.f0 == 2) = true := by simpa using k2
        have K2 := Lib.hid k2
        clear k2
        have B0 := Lib.hid (below_new w (.cells #[.int .i64 x.f0, .string x.f1, .int .i64 x.f2, .slice A3 x.f3.length c3, .slice A4 x.f4.length c4] 29))
        go_enter Try.func114, Try.ntmps114
        by_cases h1 : x.f1.toList = []
        · have t1 : (x.f1.toList == []) = true := by rw [h1]; rfl
          have H1 := Lib.hid h1
          clear h1
          by_cases h2 : 0 ≤ x.f2
          · have t2 : decide (x.f2 ≥ 0) = true := decide_eq_true h2
            have t2' : decide (0 ≤ x.f2) = true := decide_eq_true h2
            have H2 := Lib.hid h2
            clear h2
            by_cases h3 : x.f2 ≤ 999
            · have t3 : decide (x.f2 ≤ 999) = true := decide_eq_true h3
              have H3 := Lib.hid h3
              clear h3
              by_cases h4 : x.f3.length = 0
              · have t4 : ((x.f3.length : Int) == 0) = true := by rw [beq_iff_eq]; omega
                have H4 := Lib.hid h4
                clear h4
                by_cases h5 : x.f4.length = 0
                · have t5 : ((x.f4.length : Int) == 0) = true := by rw [beq_iff_eq]; omega
                  have H5 := Lib.hid h5
                  clear h5
                  go_wp2_with fail
                  go_ret
                  exact ⟨ret_b (pB_yes ((isOk2 K2.out).2 ⟨H1.out, H2.out, H3.out, H4.out, H5.out⟩)), B0.out⟩
                · have t5 : ((x.f4.length : Int) == 0) = false := by rw [beq_eq_false_iff_ne]; omega
                  have H5 := Lib.hid h5
                  clear h5
                  go_wp2_with fail
                  go_ret
                  exact ⟨ret_b (pB_no (fun h => H5.out ((isOk2 K2.out).1 h).2.2.2.2)), B0.out⟩
              · have t4 : ((x.f3.length : Int) == 0) = false := by rw [beq_eq_false_iff_ne]; omega
                have H4 := Lib.hid h4
                clear h4
                go_wp2_with fail
                go_ret
                exact ⟨ret_b (pB_no (fun h => H4.out ((isOk2 K2.out).1 h).2.2.2.1)), B0.out⟩
            · have t3 : decide (x.f2 ≤ 999) = false := decide_eq_false h3
              have H3 := Lib.hid h3
              clear h3
              go_wp2_with fail
              go_ret
              exact ⟨ret_b (pB_no (fun h => by have h1 := H3.out; have h2 := ((isOk2 K2.out).1 h).2.2.1; omega)), B0.out⟩
          · have t2 : decide (x.f2 ≥ 0) = false := decide_eq_false h2
            have t2' : decide (0 ≤ x.f2) = false := decide_eq_false h2
            have H2 := Lib.hid h2
            clear h2
            go_wp2_with fail
            go_ret
            exact ⟨ret_b (pB_no (fun h => by have h1 := H2.out; have h2 := ((isOk2 K2.out).1 h).2.1; omega)), B0.out⟩
        · have t1 : (x.f1.toList == []) = false := by rw [beq_eq_false_iff_ne]; exact h1
          have H1 := Lib.hid h1
          clear h1
          go_wp2_with fail
          go_ret
          exact ⟨ret_b (pB_no (fun h => H1.out ((isOk2 K2.out).1 h).1)), B0.out⟩
      · have e2 : (x.f0 == 2) = false := by simpa using k2
        have K2 := Lib.hid k2
        clear k2
        by_cases k3 : x.f0 = 3
        · have e3 : (x.f0 != 3) = false := by simpa using k3
          have e3' : (x.f0 == 3) = true := by simpa using k3
          have K3 := Lib.hid k3
          clear k3
          have B0 := Lib.hid (below_new w (.cells #[.int .i64 x.f0, .string x.f1, .int .i64 x.f2, .slice A3 x.f3.length c3, .slice A4 x.f4.length c4] 29))
          obtain ⟨p0, p1, p2, p3, p4⟩ := fm_cells (blk_new w (.cells #[.int .i64 x.f0, .string x.f1, .int .i64 x.f2, .slice A3 x.f3.length c3, .slice A4 x.f4.length c4] 29))
          clear p0 p1 p2 p3
          go_enter Try.func114, Try.ntmps114
          by_cases h1 : x.f1.toList = []
          · have t1 : (x.f1.toList != []) = false := by rw [h1]; rfl
            have t1' : (x.f1.toList == []) = true := by rw [h1]; rfl
            have H1 := Lib.hid h1
            clear h1
            by_cases h2 : x.f2 = 0
            · have t2 : (x.f2 != 0) = false := by simpa using h2
              have H2 := Lib.hid h2
              clear h2
              by_cases h4 : x.f3.length = 0
              · have t4 : ((x.f3.length : Int) != 0) = false := by simp [h4]
                have t4' : ((x.f3.length : Int) == 0) = true := by rw [beq_iff_eq]; omega
                have H4 := Lib.hid h4
                clear h4
                go_wp2_with fail
                go_loopg [5] x.f4.length (fun kq v5 w' => ∃ i : Nat, i ≤ x.f4.length ∧ x.f4.length - i ≤ kq ∧ v5 = .int .i64 i ∧ Aside0 (∀ j (h : j < x.f4.length), j < i → IsOk n x.f4[j]) ∧ Aside0 (Below (w.alloc (.cells #[.int .i64 x.f0, .string x.f1, .int .i64 x.f2, .slice A3 x.f3.length c3, .slice A4 x.f4.length c4] 29)).heap.size (w.alloc (.cells #[.int .i64 x.f0, .string x.f1, .int .i64 x.f2, .slice A3 x.f3.length c3, .slice A4 x.f4.length c4] 29)) w'))
                case atStart => exact ⟨0, Nat.zero_le _, by omega, rfl, ⟨fun j _ h => absurd h (by omega)⟩, ⟨Below.refl _ _⟩⟩
                case round =>
                  obtain ⟨i, hi, hg, rfl, HN, HW⟩ := hrel
                  have q4 := ck0 HW.out p4
                  have HW0 := Lib.hid (below_step B0.out HW.out)
                  by_cases hlt : i < x.f4.length
                  · obtain ⟨ad, G3, m3, G4, m4, e, g0, g1, g2, g3, g4, hk⟩ := kid_at (Kd.C_below HI.out.g4 HW0.out) i hlt
                    subst e
                    have HC := Lib.hid (IH.out x.f4[i] G3 m3 G4 m4 (m - 1) wr (by have := HM.out; omega) (by have := HM.out; omega) hk (kid_tot HT.out (List.getElem_mem hlt)))
                    clear hk
                    go_wp2_with fail
                    refine HC.out.mono ?_
                    rintro e w1 ⟨rfl, hb1⟩
                    have HB1 := Lib.hid hb1
                    clear hb1
                    cases he : pB (IsOk n x.f4[i]) with
                    | true =>
                      have HE := Lib.hid he
                      clear he
                      go_wp2_with fail
                      go_roundg (x.f4.length - (i + 1))
                      case measure => omega
                      case rel =>
                        refine ⟨i + 1, by omega, Nat.le_refl _, by go_num, ⟨fun j hj hji => ?_⟩, ⟨below_step HW.out HB1.out⟩⟩
                        rcases Nat.lt_or_ge j i with h | h
                        · exact HN.out j hj h
                        · obtain rfl : j = i := by omega
                          exact pB_iff.1 HE.out
                    | false =>
                      have HE := Lib.hid he
                      clear he
                      go_wp2_with fail
                      go_ret
                      refine ⟨ret_b (pB_no (fun h => ?_)), below_step HW0.out HB1.out⟩
                      have := pB_yes (((isOk3 K1.out K2.out).1 h).2.2.2.2 _ (List.getElem_mem hlt))
                      rw [HE.out] at this
                      cases this
                  · obtain rfl : i = x.f4.length := by omega
                    go_wp2_with fail
                    go_ret
                    refine ⟨ret_b (pB_yes ((isOk3 K1.out K2.out).2 ⟨K3.out, H1.out, H2.out, H4.out, fun k hk => ?_⟩)), HW0.out⟩
                    obtain ⟨j, hj, rfl⟩ := List.getElem_of_mem hk
                    exact HN.out j hj hj
              · have t4 : ((x.f3.length : Int) != 0) = true := by rw [bne_iff_ne]; omega
                have t4' : ((x.f3.length : Int) == 0) = false := by rw [beq_eq_false_iff_ne]; omega
                have H4 := Lib.hid h4
                clear h4
                go_wp2_with fail
                go_ret
                exact ⟨ret_b (pB_no (fun h => by have h1 := H4.out; have h2 := ((isOk3 K1.out K2.out).1 h).2.2.2.1; omega)), B0.out⟩
            · have t2 : (x.f2 != 0) = true := by simpa using h2
              have H2 := Lib.hid h2
              clear h2
              go_wp2_with fail
              go_ret
              exact ⟨ret_b (pB_no (fun h => H2.out ((isOk3 K1.out K2.out).1 h).2.2.1)), B0.out⟩
          · have t1 : (x.f1.toList != []) = true := by rw [bne_iff_ne]; exact h1
            have t1' : (x.f1.toList == []) = false := by rw [beq_eq_false_iff_ne]; exact h1
            have H1 := Lib.hid h1
            clear h1
            go_wp2_with fail
            go_ret
            exact ⟨ret_b (pB_no (fun h => H1.out ((isOk3 K1.out K2.out).1 h).2.1)), B0.out⟩
        · have e3 : (x.f0 != 3) = true := by simpa using k3
          have e3' : (x.f0 == 3) = false := by simpa using k3
          have K3 := Lib.hid k3
          clear k3
          have B0 := Lib.hid (below_new w (.cells #[.int .i64 x.f0, .string x.f1, .int .i64 x.f2, .slice A3 x.f3.length c3, .slice A4 x.f4.length c4] 29))
          go_enter Try.func114, Try.ntmps114
          go_wp2_with fail
          go_ret
          exact ⟨ret_b (pB_no (fun h => K3.out ((isOk3 K1.out K2.out).1 h).1)), B0.out⟩
def FmOk (x : Fm) : Prop := IsOk 40 x ∧ x.size ≤ 400
theorem specValid_any (x : Fm) (A3 : Option Addr) (c3 : Nat) (A4 : Option Addr) (c4 : Nat) (w : World) (hin : FmIn w x A3 c3 A4 c4) (ht : x.tot ≤ 1048576) :
    Calls Try.prog 72 #[.agg #[.int .i64 x.f0, .string x.f1, .int .i64 x.f2, .slice A3 x.f3.length c3, .slice A4 x.f4.length c4]] w (Ret w (.bool (pB (FmOk x)))) := by
  have hb := below_new w (.cells #[.int .i64 x.f0, .string x.f1, .int .i64 x.f2, .slice A3 x.f3.length c3, .slice A4 x.f4.length c4] 29)
  have HI := Lib.hid (l1Is_any 40 x A3 c3 A4 c4 40 _ rfl (by omega) (hin.below hb) ht)
  have hsz : x.size < 4611686018427387904 := by have := sizes_totL x; omega
  have HS := Lib.hid (fun W hb => l1Count_any x A3 c3 A4 c4 W (hin.below hb) hsz)
  clear hb hin
  go_enter Try.func72, Try.ntmps72
  go_wp2_with fail
  refine HI.out.mono ?_
  rintro e w1 ⟨rfl, hb1⟩
  obtain ⟨z1, b1⟩ := one_new hb1
  obtain ⟨p0, p1, p2, p3, p4⟩ := fm_cells z1
  have B1 := Lib.hid b1
  have HS1 := Lib.hid (HS.out _ b1)
  clear hb1 b1 HS
  cases hq : pB (IsOk 40 x) with
  | false =>
    have HQ := Lib.hid hq
    clear hq
    go_wp2_with fail
    go_ret
    exact ⟨ret_b (pB_no (fun h => by have := pB_yes h.1; rw [HQ.out] at this; cases this)), B1.out⟩
  | true =>
    have HQ := Lib.hid hq
    clear hq
    go_wp2_with fail
    refine HS1.out.mono ?_
    rintro e w2 ⟨rfl, hb2⟩
    have B2 := Lib.hid (below_step B1.out hb2)
    clear hb2
    by_cases h4 : x.size ≤ 400
    · have t1 : decide ((x.size : Int) ≤ 400) = true := decide_eq_true (by omega)
      have H4 := Lib.hid h4
      clear h4
      go_wp2_with fail
      go_ret
      exact ⟨ret_b (pB_yes ⟨pB_iff.1 HQ.out, H4.out⟩), B2.out⟩
    · have t1 : decide ((x.size : Int) ≤ 400) = false := decide_eq_false (by omega)
      have H4 := Lib.hid h4
      clear h4
      go_wp2_with fail
      go_ret
      exact ⟨ret_b (pB_no (fun h => by have h1 := H4.out; have h2 := h.2; omega)), B2.out⟩
end Go.Proofs.Ytnaefjilcabkoaa
end
section
namespace Go.Proofs.Ytnaefjilcabkoaa
set_option linter.unusedVariables false
set_option linter.unusedSimpArgs false
abbrev Srt (l : List Int) : Prop := l.Pairwise (· < ·)
theorem len_putS (l : List Int) (x : Int) : (putS l x).length = if x ∈ l then l.length else l.length + 1 := by
  unfold putS
  split
  · rfl
  · exact putAt_len _ _ _ (List.countP_le_length)
theorem len_putS_le (l : List Int) (x : Int) : (putS l x).length ≤ l.length + 1 := by
  rw [len_putS]; split <;> omega
/-- In an ordered list, the first k elements (k: how many are smaller) are smaller, the others not. -/
theorem srt_cut : ∀ {l : List Int} (x : Int), Srt l → (∀ y, y ∈ l.take (l.countP (· < x)) → y < x) ∧ (∀ y, y ∈ l.drop (l.countP (· < x)) → x ≤ y)
  | [], x, _ => by simp
  | a :: l, x, h => by
    obtain ⟨h1, h2⟩ := List.pairwise_cons.1 h
    by_cases ha : a < x
    · rw [List.countP_cons_of_pos (by simpa using ha), List.take_succ_cons, List.drop_succ_cons]
      obtain ⟨i1, i2⟩ := srt_cut x h2
      refine ⟨fun y hy => ?_, i2⟩
      rcases List.mem_cons.1 hy with rfl | hy
      · exact ha
      · exact i1 y hy
    · have hz : l.countP (· < x) = 0 := by
        rw [List.countP_eq_zero]
        intro b hb
        have := h1 b hb
        simp; omega
      rw [List.countP_cons_of_neg (by simpa using ha), hz]
      refine ⟨fun y hy => by simp at hy, fun y hy => ?_⟩
      rcases List.mem_cons.1 (by simpa using hy) with rfl | hy
      · omega
      · have := h1 y hy; omega
theorem srt_putS {l : List Int} (h : Srt l) (x : Int) : Srt (putS l x) := by
  unfold putS
  split
  · exact h
  · rename_i hx
    obtain ⟨c1, c2⟩ := srt_cut x h
    have h' : Srt (l.take (l.countP (· < x)) ++ l.drop (l.countP (· < x))) := by rw [List.take_append_drop]; exact h
    unfold putAt
    obtain ⟨p1, p2, p3⟩ := List.pairwise_append.1 h'
    refine List.pairwise_append.2 ⟨p1, List.pairwise_cons.2 ⟨fun y hy => ?_, p2⟩, fun a ha b hb => ?_⟩
    · have h1 := c2 y hy
      have : y ≠ x := fun e => hx (e ▸ List.mem_of_mem_drop hy)
      omega
    · rcases List.mem_cons.1 hb with rfl | hb
      · exact c1 a ha
      · exact p3 a ha b hb
/-- A valid set of scopes: in order, from 1 to 99, 24 at most. -/
theorem scOk_iff {l : List Int} : ScOk l ↔ l.length ≤ 24 ∧ Srt l ∧ ∀ x, x ∈ l → 1 ≤ x ∧ x ≤ 99 := by
  unfold ScOk
  constructor
  · rintro ⟨h1, h2⟩
    refine ⟨h1, ?_, fun x hx => ?_⟩
    · have key : ∀ i j (hi : i < l.length) (hj : j < l.length), i < j → l[i] < l[j] := by
        intro i j hi hj hij
        induction j with
        | zero => omega
        | succ j ih =>
          have h3 := (h2 (j + 1) hj).2.2 j (by omega) rfl
          rcases Nat.lt_or_ge i j with h | h
          · have := ih (by omega) h; omega
          · obtain rfl : i = j := by omega
            exact h3
      rw [Srt, List.pairwise_iff_getElem]
      exact fun i j hi hj hij => key i j hi hj hij
    · obtain ⟨i, hi, rfl⟩ := List.getElem_of_mem hx
      exact ⟨(h2 i hi).1, (h2 i hi).2.1⟩
  · rintro ⟨h1, h2, h3⟩
    refine ⟨h1, fun i hi => ⟨(h3 _ (List.getElem_mem hi)).1, (h3 _ (List.getElem_mem hi)).2, fun j hj e => ?_⟩⟩
    rw [Srt, List.pairwise_iff_getElem] at h2
    exact h2 j i hj hi (by omega)
theorem putS_same {l : List Int} {x : Int} (h : x ∈ l) : putS l x = l := by unfold putS; rw [if_pos h]
abbrev takeO (l : List Int) (x : Int) : List Int := l.filter (fun y => !(y == x))
theorem len_takeO_le (l : List Int) (x : Int) : (takeO l x).length ≤ l.length := List.length_filter_le _ _
end Go.Proofs.Ytnaefjilcabkoaa
end
section
namespace Go.Proofs.Ytnaefjilcabkoaa
set_option linter.unusedVariables false
set_option linter.unusedSimpArgs false
mutual
/-- A form whose names have other scopes (what is no name has none). -/
def Fm.chS (g : List Int → List Int) : Fm → Fm
  | ⟨a, b, c, d, ks⟩ => ⟨a, b, c, if a = 1 then g d else [], chSL g ks⟩
def chSL (g : List Int → List Int) : List Fm → List Fm
  | [] => []
  | k :: ks => k.chS g :: chSL g ks
end
theorem chSL_map (g : List Int → List Int) (l : List Fm) : chSL g l = l.map (Fm.chS g) := by
  induction l with
  | nil => rfl
  | cons a l ih => simp [chSL, ih]
theorem Fm.chS_eq (g : List Int → List Int) (x : Fm) : x.chS g = ⟨x.f0, x.f1, x.f2, if x.f0 = 1 then g x.f3 else [], x.f4.map (Fm.chS g)⟩ := by
  cases x; simp only [Fm.chS, chSL_map]
/-- A fact on all names within a form. -/
inductive AllNm (P : Fm → Prop) : Fm → Prop
  | mk (x : Fm) (h : x.f0 = 1 → P x) (hk : ∀ k, k ∈ x.f4 → AllNm P k) : AllNm P x
theorem AllNm.at {P : Fm → Prop} {x : Fm} (h : AllNm P x) : x.f0 = 1 → P x := by cases h; assumption
theorem AllNm.kid {P : Fm → Prop} {x : Fm} (h : AllNm P x) : ∀ k, k ∈ x.f4 → AllNm P k := by cases h; assumption
theorem AllNm.imp {P Q : Fm → Prop} (hi : ∀ x, P x → Q x) {x : Fm} (h : AllNm P x) : AllNm Q x := by
  induction h with
  | mk x h hk ih => exact ⟨x, fun e => hi x (h e), ih⟩
theorem AllNm.and {P Q : Fm → Prop} {x : Fm} (h : AllNm P x) (h2 : AllNm Q x) : AllNm (fun y => P y ∧ Q y) x := by
  induction h with
  | mk x h hk ih => exact ⟨x, fun e => ⟨h e, h2.at e⟩, fun k hk => ih k hk (h2.kid k hk)⟩
theorem AllNm.all {P : Fm → Prop} (h : ∀ x, P x) (x : Fm) : AllNm P x := by
  induction x using Fm.ind with
  | h x ih => exact ⟨x, fun _ => h x, ih⟩
theorem map_eq {α β : Type} {f g : α → β} {l : List α} (h : ∀ a, a ∈ l → f a = g a) : l.map f = l.map g := List.map_congr_left h
theorem chS_chS (g h : List Int → List Int) (x : Fm) : (x.chS h).chS g = x.chS (fun l => g (h l)) := by
  induction x using Fm.ind with
  | h x ih =>
    rw [Fm.chS_eq g, Fm.chS_eq h, Fm.chS_eq _ x]
    dsimp only
    rw [List.map_map, map_eq (f := Fm.chS g ∘ Fm.chS h) (g := Fm.chS (fun l => g (h l))) (fun a ha => ih a ha)]
    congr 1
    split <;> rfl
theorem toList_len (s : ByteArray) : s.toList.length = s.size := by rw [ByteArray.toList_eq]; exact Array.length_toList
theorem nmOk_size {s : ByteArray} (h : NmOk s) : s.size ≤ 12 := by
  rcases h with h | h | h
  · have := congrArg List.length h; rw [toList_len] at this; simp at this; omega
  · have := congrArg List.length h; rw [toList_len] at this; simp at this; omega
  · exact h.2.1
/-- The three kinds of valid forms. -/
theorem isOk_cases {n : Nat} {x : Fm} (h : IsOk n x) : ∃ m, n = m + 1 ∧ ((x.f0 = 1 ∧ NmOk x.f1 ∧ x.f2 = 0 ∧ ScOk x.f3 ∧ x.f4 = []) ∨ (x.f0 = 2 ∧ x.f1.toList = [] ∧ 0 ≤ x.f2 ∧ x.f2 ≤ 999 ∧ x.f3 = [] ∧ x.f4 = []) ∨ (x.f0 = 3 ∧ x.f1.toList = [] ∧ x.f2 = 0 ∧ x.f3 = [] ∧ ∀ k, k ∈ x.f4 → IsOk m k)) := by
  cases n with
  | zero => cases x; exact absurd h (by simp [IsOk])
  | succ m =>
    refine ⟨m, rfl, ?_⟩
    by_cases h1 : x.f0 = 1
    · obtain ⟨a, b, c, d⟩ := (isOk1 h1).1 h
      exact .inl ⟨h1, a, b, c, List.eq_nil_of_length_eq_zero d⟩
    · by_cases h2 : x.f0 = 2
      · obtain ⟨a, b, c, d, e⟩ := (isOk2 h2).1 h
        exact .inr (.inl ⟨h2, a, b, c, List.eq_nil_of_length_eq_zero d, List.eq_nil_of_length_eq_zero e⟩)
      · obtain ⟨a, b, c, d, e⟩ := (isOk3 h1 h2).1 h
        exact .inr (.inr ⟨a, b, c, List.eq_nil_of_length_eq_zero d, e⟩)
theorem isOk_sc {n : Nat} {x : Fm} (h : IsOk n x) : AllNm (fun y => ScOk y.f3 ∧ NmOk y.f1) x := by
  induction x using Fm.ind generalizing n with
  | h x ih =>
    obtain ⟨m, rfl, hc⟩ := isOk_cases h
    rcases hc with ⟨h1, a, b, c, d⟩ | ⟨h1, a, b, c, d, e⟩ | ⟨h1, a, b, c, d⟩
    · exact ⟨x, fun _ => ⟨c, a⟩, fun k hk => by rw [d] at hk; cases hk⟩
    · exact ⟨x, fun e => by omega, fun k hk => by rw [e] at hk; cases hk⟩
    · exact ⟨x, fun e => by omega, fun k hk => ih k hk (d k hk)⟩
theorem fmOk_sc {x : Fm} (h : FmOk x) : AllNm (fun y => ScOk y.f3) x := (isOk_sc h.1).imp (fun _ h => h.1)
theorem isOk_chS_id {n : Nat} {x : Fm} (h : IsOk n x) : x.chS (fun l => l) = x := by
  induction x using Fm.ind generalizing n with
  | h x ih =>
    obtain ⟨m, rfl, hc⟩ := isOk_cases h
    rw [Fm.chS_eq]
    rcases hc with ⟨h1, a, b, c, d⟩ | ⟨h1, a, b, c, d, e⟩ | ⟨h1, a, b, c, d⟩
    · refine Fm.ext' rfl rfl rfl ?_ ?_
      · dsimp only; rw [if_pos h1]
      · dsimp only; rw [d]; rfl
    · refine Fm.ext' rfl rfl rfl ?_ ?_
      · dsimp only; rw [if_neg (by omega), d]
      · dsimp only; rw [e]; rfl
    · refine Fm.ext' rfl rfl rfl ?_ ?_
      · dsimp only; rw [if_neg (by omega), c]
      · dsimp only
        rw [map_eq (g := id) (fun k hk => ih k hk (d k hk)), List.map_id]
/-- How many values and letters a valid form has whose sets of scopes may have grown. -/
theorem tot_chS {n : Nat} {x : Fm} (h : IsOk n x) (g : List Int → List Int) (m : Nat) (hg : AllNm (fun y => (g y.f3).length ≤ m) x) : (x.chS g).tot + 1 ≤ (13 + m) * x.size := by
  induction x using Fm.ind generalizing n with
  | h x ih =>
    obtain ⟨q, rfl, hc⟩ := isOk_cases h
    have hz : ∀ s : ByteArray, s.toList = [] → s.size = 0 := fun s hs => by rw [← toList_len s, hs]; rfl
    rw [Fm.chS_eq, Fm.tot_eq, Fm.size_eq]
    dsimp only
    rcases hc with ⟨h1, a, b, c, d⟩ | ⟨h1, a, b, c, d, e⟩ | ⟨h1, a, b, c, d⟩
    · have := nmOk_size a
      have := hg.at h1
      rw [if_pos h1, d]
      simp only [List.map_nil, totL, sizes]
      omega
    · have := hz _ a
      rw [if_neg (by omega), e]
      simp only [List.map_nil, totL, sizes, List.length_nil]
      omega
    · have := hz _ a
      rw [if_neg (by omega)]
      have key : ∀ l : List Fm, (∀ k, k ∈ l → (k.chS g).tot + 1 ≤ (13 + m) * k.size) → totL (l.map (Fm.chS g)) ≤ (13 + m) * sizes l := by
        intro l
        induction l with
        | nil => intro _; simp [totL]
        | cons a l ih2 =>
          intro h
          rw [List.map_cons, totL, sizes, Nat.mul_add]
          have h1 := h a List.mem_cons_self
          have h2 := ih2 (fun k hk => h k (List.mem_cons_of_mem _ hk))
          omega
      have := key x.f4 (fun k hk => ih k hk (d k hk) (hg.kid k hk))
      rw [Nat.mul_add]
      simp only [List.length_nil]
      omega
theorem fmOk_tot {x : Fm} (h : FmOk x) : x.tot ≤ 20000 := by
  have h1 := tot_chS h.1 (fun l => l) 24 ((fmOk_sc h).imp (fun y hy => hy.1))
  rw [isOk_chS_id h.1] at h1
  have := h.2
  have h3 : (13 + 24) * x.size ≤ 37 * 400 := Nat.mul_le_mul (by omega) this
  omega
/-- What AddScope, FlipScope, DropScope and DressLike return. -/
noncomputable def orN (x : Fm) : Fm × Bool := if pB (FmOk x) then (x, true) else (zFm, false)
noncomputable def reS (g : List Int → List Int) (n : Int) (x : Fm) : Fm × Bool := if pB (FmOk x ∧ 1 ≤ n ∧ n ≤ 99) then orN (x.chS g) else (zFm, false)
abbrev tupF (p : Fm × Bool) : Int × ByteArray × Int × List Int × List Fm × Bool := (p.1.f0, p.1.f1, p.1.f2, p.1.f3, p.1.f4, p.2)
theorem orN_yes {x : Fm} (h : FmOk x) : orN x = (x, true) := by unfold orN; rw [if_pos (pB_iff.2 h)]
theorem orN_no {x : Fm} (h : ¬ FmOk x) : orN x = (zFm, false) := by unfold orN; rw [if_neg (fun k => h (pB_iff.1 k))]
theorem zFm_tot : zFm.tot = 0 := rfl
end Go.Proofs.Ytnaefjilcabkoaa
end
section
namespace Go.Proofs.Ytnaefjilcabkoaa
open Go.RowKit Go.Proofs.YtnaefjilcabkoaaW.PrintWords Go.Proofs.YtnaefjilcabkoaaW.PrintLast Go.Proofs.YtnaefjilcabkoaaW.PrintMore
set_option linter.unusedVariables false
set_option linter.unusedSimpArgs false
set_option maxHeartbeats 4000000 in
set_option maxRecDepth 100000 in
theorem dressed_any (fv : Fv) (g : List Int → List Int) : ∀ x : Fm, AllNm (fun y => fv.f y.f3 = some (g y.f3)) x → ∀ (A3 : Option Addr) (c3 : Nat) (A4 : Option Addr) (c4 : Nat) (w : World), FmIn w x A3 c3 A4 c4 → x.tot ≤ 1000000000 → Below fv.w0.heap.size fv.w0 w →
    Calls Try.prog 78 #[.agg #[.int .i64 x.f0, .string x.f1, .int .i64 x.f2, .slice A3 x.f3.length c3, .slice A4 x.f4.length c4], .func (.func fv.g) #[] fv.lb] w (RetF w (x.chS g)) := by
  intro x
  induction x using Fm.ind with
  | h x ih =>
    intro ha A3 c3 A4 c4 w hin ht hw
    have hmax := hin.g4.2.1
    have HI := Lib.hid hin
    have HT := Lib.hid ht
    have IH := Lib.hid ih
    have HA := Lib.hid ha
    have HW := Lib.hid hw
    clear hin ht ih ha hw
    go_enter Try.func78, Try.ntmps78
    have HCP : Hid (Cp w (.cells #[.int .i64 x.f0, .string x.f1, .int .i64 x.f2, .slice A3 x.f3.length c3, .slice A4 x.f4.length c4] 29) (.cells #[.int .i64 0, .string ⟨#[]⟩, .int .i64 0, .slice none 0 0, .slice none 0 0] 29) (w.heap.size + 1 + 1) x.f0 x.f1 x.f2 [] [] (.slice none 0 0) (.slice none 0 0) [] [] (((w.alloc (.cells #[.int .i64 x.f0, .string x.f1, .int .i64 x.f2, .slice A3 x.f3.length c3, .slice A4 x.f4.length c4] 29)).alloc (.cells #[.int .i64 0, .string ⟨#[]⟩, .int .i64 0, .slice none 0 0, .slice none 0 0] 29)).alloc (.cells #[.int .i64 x.f0, .string x.f1, .int .i64 x.f2, .slice none 0 0, .slice none 0 0] 29))) := by
      obtain ⟨k1, k2, k3, hb⟩ := three_new (w := w) (O1 := (.cells #[.int .i64 x.f0, .string x.f1, .int .i64 x.f2, .slice A3 x.f3.length c3, .slice A4 x.f4.length c4] 29)) (O2 := (.cells #[.int .i64 0, .string ⟨#[]⟩, .int .i64 0, .slice none 0 0, .slice none 0 0] 29)) (O3 := .cells #[.int .i64 x.f0, .string x.f1, .int .i64 x.f2, .slice none 0 0, .slice none 0 0] 29) (Below.refl _ _)
      exact ⟨⟨hb, k1, k2, k3, Nat.le_refl _⟩, by simp [World.ownsRow, encs], by simp [World.ownsRow], .nil, by simp [obs, Value.ownBlock], by simp [obs, Value.ownBlock]⟩
    have HBP := Lib.hid (show Below w.heap.size w (((w.alloc (.cells #[.int .i64 x.f0, .string x.f1, .int .i64 x.f2, .slice A3 x.f3.length c3, .slice A4 x.f4.length c4] 29)).alloc (.cells #[.int .i64 0, .string ⟨#[]⟩, .int .i64 0, .slice none 0 0, .slice none 0 0] 29)).alloc (.cells #[.int .i64 x.f0, .string x.f1, .int .i64 x.f2, .slice none 0 0, .slice none 0 0] 29)) from HCP.out.fr.b)
    go_upto_if 17 with fail
    (try simp only [Act.put, List.setIfInBounds_toArray, List.set_cons_zero, List.set_cons_succ])
    go_cut [] (fun wc => ∃ (sc : List Int) (D3 : Option Addr) (e3 : Nat), Aside0 (sc = if x.f0 = 1 then g x.f3 else []) ∧ Aside0 (Cp w (.cells #[.int .i64 x.f0, .string x.f1, .int .i64 x.f2, .slice A3 x.f3.length c3, .slice A4 x.f4.length c4] 29) (.cells #[.int .i64 0, .string ⟨#[]⟩, .int .i64 0, .slice none 0 0, .slice none 0 0] 29) (w.heap.size + 1 + 1) x.f0 x.f1 x.f2 sc [] (.slice D3 sc.length e3) (.slice none 0 0) [] [] wc))
    case first =>
      by_cases h1 : x.f0 = 1
      · have c1 : (x.f0 == 1) = true := beq_iff_eq.mpr h1
        have HF := Lib.hid (HA.out.at h1)
        have HX1 := Lib.hid h1
        clear h1
        (first | rw [c1] | skip)
        go_wp2_with fail
        refine (cloneI_any x.f3 A3 c3 _ (Kd.C_below HI.out.g3 HBP.out) HI.out.l3 (by have := HT.out; have := scTot x; omega)).mono ?_
        rintro e w4 ⟨v3, rfl, ho3, hb4⟩
        obtain ⟨D3, e3, rfl⟩ := Kd.R_slice ho3
        have HR3 := Aside0.mk ho3
        have HB4 := Lib.hid hb4
        clear ho3 hb4
        go_wp2_with (first | ((with_reducible refine gate_dst (N := 22) rfl ?_); refine Q.goesV_ (some 22) rfl rfl fv.eg #[.slice D3 x.f3.length e3] rfl rfl (by (try simp only [List.map_toArray, List.map_cons, List.map_nil]); first | done | rfl) ?_; refine (fv.ok (fun _ => True) _ x.f3 (g x.f3) (((w.alloc (.cells #[.int .i64 x.f0, .string x.f1, .int .i64 x.f2, .slice A3 x.f3.length c3, .slice A4 x.f4.length c4] 29)).alloc (.cells #[.int .i64 0, .string ⟨#[]⟩, .int .i64 0, .slice none 0 0, .slice none 0 0] 29)).alloc (.cells #[.int .i64 x.f0, .string x.f1, .int .i64 x.f2, .slice none 0 0, .slice none 0 0] 29)) w4 HB4.out HR3.out (below_step HW.out HBP.out) HF.out).mono ?_; rintro e w5 ⟨v0, rfl, hr5, hb5, hk5⟩; refine ⟨_, rfl, ?_⟩; obtain ⟨D5, e5, e6⟩ := Kd.R_slice hr5; subst e6; have HR5 := Aside0.mk hr5; have HB5 := Lib.hid hb5; have z3 := (fm_cells (HCP.out.later hb5).fr.k3).2.2.2.1; have f3 := (fm_free (HCP.out.later hb5).fr.k3).2.2.2.1; clear hr5 hb5 hk5))
        go_meet
        case rel => exact ⟨_, _, _, ⟨by rw [if_pos HX1.out]⟩, ⟨HCP.out.rescope HB5.out HR5.out⟩⟩
      · have c1 : (x.f0 == 1) = false := beq_eq_false_iff_ne.mpr h1
        have HX1 := Lib.hid h1
        clear h1
        (first | rw [c1] | skip)
        go_wp2
        go_meet
        case rel => exact ⟨[], none, 0, ⟨by rw [if_neg HX1.out]⟩, ⟨HCP.out⟩⟩
    case rest =>
      obtain ⟨sc, D3, e3, HSC, HCP⟩ := hcut
      obtain ⟨l0, l1, l2, l3, l4⟩ := fm_cells HCP.out.fr.k1
      try go_wp2_with fail
      clear l0 l1 l2 l3 l4
      go_loopg [7, 27] x.f4.length (fun kq v5 v4 w' => ∃ i : Nat, i ≤ x.f4.length ∧ x.f4.length - i ≤ kq ∧ v4 = .int .i64 i ∧ Aside0 (∃ v inner fp, Cp w (.cells #[.int .i64 x.f0, .string x.f1, .int .i64 x.f2, .slice A3 x.f3.length c3, .slice A4 x.f4.length c4] 29) (.cells #[.int .i64 0, .string ⟨#[]⟩, .int .i64 0, .slice none 0 0, .slice none 0 0] 29) (w.heap.size + 1 + 1) x.f0 x.f1 x.f2 sc ((x.f4.take i).map (Fm.chS g)) (.slice D3 sc.length e3) v inner fp w'))
      case atStart => exact ⟨0, Nat.zero_le _, by omega, rfl, ⟨⟨.slice none 0 0, [], [], by simpa using HCP.out⟩⟩⟩
      case round =>
        obtain ⟨i, hi, hg, rfl, HO⟩ := hrel
        by_cases hlt : i < x.f4.length
        · obtain ⟨v, inner, fp, hC⟩ := HO.out
          obtain ⟨ad, G3, m3, G4, m4, e, g0, g1, g2, g3_, g4, hk⟩ := kid_at HI.out.g4 i hlt
          subst e
          replace g0 := ck0 hC.fr.b g0
          replace g1 := ck0 hC.fr.b g1
          replace g2 := ck0 hC.fr.b g2
          replace g3_ := ck0 hC.fr.b g3_
          replace g4 := ck0 hC.fr.b g4
          have hkt := totL_mem (List.getElem_mem hlt)
          have hxt := HT.out
          rw [Fm.tot_eq] at hxt
          have r1 : (0 : Int) ≤ (i : Int) := by omega
          have r2 : (i : Int) < (x.f4.length : Int) := by omega
          have hlen := len_totL x.f4
          have HKT := Lib.hid (show x.f4[i].tot ≤ 1000000000 by omega)
          have HLN := Lib.hid (show x.f4.length ≤ 1000000000 by omega)
          have HK := Lib.hid hk
          have HC := Lib.hid hC
          have SK := Lib.hid (fun (W : World) (hf : Fr w (.cells #[.int .i64 x.f0, .string x.f1, .int .i64 x.f2, .slice A3 x.f3.length c3, .slice (some ad) x.f4.length c4] 29) (.cells #[.int .i64 0, .string ⟨#[]⟩, .int .i64 0, .slice none 0 0, .slice none 0 0] 29) (w.heap.size + 1 + 1) #[.int .i64 x.f0, .string x.f1, .int .i64 x.f2, (.slice D3 sc.length e3), v] W) (hk : W.heap[wr.heap.size]? = some (.cells #[.int .i64 x.f4[i].f0, .string x.f4[i].f1, .int .i64 x.f4[i].f2, .slice G3 x.f4[i].f3.length m3, .slice G4 x.f4[i].f4.length m4] 29)) => (⟨(fm_cells hf.k3).2.2.2.2, (fm_cells hk).1, (fm_cells hk).2.1, (fm_cells hk).2.2.1, (fm_cells hk).2.2.2.1, (fm_cells hk).2.2.2.2⟩ : (fun w' => w'.cell? ⟨(w.heap.size + 1 + 1), 4, none⟩ = some v ∧ w'.cell? ⟨wr.heap.size, 0, none⟩ = some (.int .i64 x.f4[i].f0) ∧ w'.cell? ⟨wr.heap.size, 1, none⟩ = some (.string x.f4[i].f1) ∧ w'.cell? ⟨wr.heap.size, 2, none⟩ = some (.int .i64 x.f4[i].f2) ∧ w'.cell? ⟨wr.heap.size, 3, none⟩ = some (.slice G3 x.f4[i].f3.length m3) ∧ w'.cell? ⟨wr.heap.size, 4, none⟩ = some (.slice G4 x.f4[i].f4.length m4)) W))
          have hvl : ∀ b, v.ownBlock = some b → b ≠ wr.heap.size := fun b hb => by have := hC.lt b (by simp [obs_mem, hb]); omega
          have HVL := Lib.hid hvl
          clear hC hk hkt hxt hlen hvl
          go_wp2_with fail
          clear g0 g1 g2 g3_ g4
          have HD := Lib.hid ((HC.out.later (below_new _ (.cells #[.int .i64 x.f4[i].f0, .string x.f4[i].f1, .int .i64 x.f4[i].f2, .slice G3 x.f4[i].f3.length m3, .slice G4 x.f4[i].f4.length m4] 29))).later (below_drew (Below.refl _ _)))
          have KD := Lib.hid (blk_drew (blk_new wr (.cells #[.int .i64 x.f4[i].f0, .string x.f4[i].f1, .int .i64 x.f4[i].f2, .slice G3 x.f4[i].f3.length m3, .slice G4 x.f4[i].f4.length m4] 29)))
          refine start_ (n := 9) (S := fun w' => w'.cell? ⟨(w.heap.size + 1 + 1), 4, none⟩ = some v ∧ w'.cell? ⟨wr.heap.size, 0, none⟩ = some (.int .i64 x.f4[i].f0) ∧ w'.cell? ⟨wr.heap.size, 1, none⟩ = some (.string x.f4[i].f1) ∧ w'.cell? ⟨wr.heap.size, 2, none⟩ = some (.int .i64 x.f4[i].f2) ∧ w'.cell? ⟨wr.heap.size, 3, none⟩ = some (.slice G3 x.f4[i].f3.length m3) ∧ w'.cell? ⟨wr.heap.size, 4, none⟩ = some (.slice G4 x.f4[i].f4.length m4)) (ds := [8]) #[false, false, false, false, false, false, false, false, false] (by kernel_rfl) rfl rfl (SK.out _ HD.out.fr KD.out) (fun hHeld => ?_)
          generalize World.drew _ = wd at HD KD hHeld ⊢
          refine pure_ (i := 0) (N := some 31) (v := ?_) (a' := ?_) #[true, false, false, false, false, false, false, false, false] rfl rfl (by kernel_rfl) (fun _ _ _ h => h) (Or.inl ⟨by rfl, ?_⟩) ?_ ?_
          rotate_left
          · intro w'
            go_simp
            with_reducible rfl
          rotate_left
          · simp only [Act.put, List.setIfInBounds_toArray, List.set_cons_zero, List.set_cons_succ, i64_w, i32_w]
            rfl
          refine pure_ (i := 3) (N := some 34) (v := ?_) (a' := ?_) #[true, false, false, true, false, false, false, false, false] rfl rfl (by kernel_rfl) (fun _ _ _ h => h) (Or.inl ⟨by rfl, ?_⟩) ?_ ?_
          rotate_left
          · intro w'
            go_simp
            with_reducible rfl
          rotate_left
          · simp only [Act.put, List.setIfInBounds_toArray, List.set_cons_zero, List.set_cons_succ, i64_w, i32_w]
            rfl
          refine take_ (i := 1) (N := some 32) (v := ?_) (a' := ?_) #[true, true, false, true, false, false, false, false, false] rfl rfl (by kernel_rfl) (fun _ _ _ h => h) (Or.inl ⟨by rfl, ?_⟩) hHeld ?_ ?_
          rotate_left
          · rintro w' ⟨s0, s1, s2, s3, s4, s5⟩
            go_simp
            with_reducible rfl
          rotate_left
          · simp only [Act.put, List.setIfInBounds_toArray, List.set_cons_zero, List.set_cons_succ, i64_w, i32_w]
            rfl
          refine take_ (i := 2) (N := some 33) (v := ?_) (a' := ?_) #[true, true, true, true, false, false, false, false, false] rfl rfl (by kernel_rfl) (fun _ _ _ h => h) (Or.inl ⟨by rfl, ?_⟩) hHeld ?_ ?_
          rotate_left
          · rintro w' ⟨s0, s1, s2, s3, s4, s5⟩
            go_simp
            with_reducible rfl
          rotate_left
          · simp only [Act.put, List.setIfInBounds_toArray, List.set_cons_zero, List.set_cons_succ, i64_w, i32_w]
            rfl
          refine one_ (i := 4) (N := some 35) #[true, true, true, true, true, false, false, false, false] rfl rfl (by kernel_rfl) (by decide) (fun K hK => ?_)
          refine goes_ Try.func78 (by kernel_rfl) rfl #[.agg #[.int .i64 x.f4[i].f0, .string x.f4[i].f1, .int .i64 x.f4[i].f2, .slice G3 x.f4[i].f3.length m3, .slice G4 x.f4[i].f4.length m4], .func (.func fv.g) #[] fv.lb] (by rfl) rfl rfl (by (try simp only [List.map_toArray, List.map_cons, List.map_nil]); first | done | rfl) ?_
          refine (IH.out x.f4[i] (List.getElem_mem hlt) (HA.out.kid _ (List.getElem_mem hlt)) G3 m3 G4 m4 wd (HK.out.below HD.out.fr.b) HKT.out (below_step HW.out HD.out.fr.b)).mono ?_
          rintro e w7 ⟨u3, u4, rfl, hn, hb7⟩
          refine ⟨_, rfl, ?_⟩
          obtain ⟨J3, q3, J4, q4, rfl, rfl⟩ : ∃ J3 q3 J4 q4, u3 = .slice J3 (x.f4[i].chS g).f3.length q3 ∧ u4 = .slice J4 (x.f4[i].chS g).f4.length q4 := by
            obtain ⟨fk, hk2, _⟩ := hn
            obtain ⟨J3, q3, J4, q4, e3, e4, _⟩ := hk2.In
            exact ⟨J3, q3, J4, q4, e3, e4⟩
          have H7 := Lib.hid (HD.out.later hb7)
          have HN := Lib.hid hn
          have HLT := Lib.hid (And.intro HD.out.lt HD.out.fr.lt)
          have K7 := Lib.hid (blk_below KD.out hb7)
          clear hn hb7
          refine hK.out _ _ (SK.out _ H7.out.fr K7.out) (fun hHeld => ?_)
          clear hK K
          refine norm_ (a' := ?_) ?_ ?_
          rotate_left
          · show Act.put _ (some 35) _ = _
            simp only [Act.put, List.setIfInBounds_toArray, List.set_cons_zero, List.set_cons_succ, i64_w, i32_w]
            rfl
          refine one_ (i := 5) (N := some 36) #[true, true, true, true, true, true, false, false, false] rfl rfl (by kernel_rfl) (by decide) (fun K hK => ?_)
          refine value_ (w1 := ?_) (v := ?_) (by rfl) rfl ?_ ?_
          rotate_left 2
          · go_simp
            constructor
            · rfl
            · rfl
          refine hK.out _ _ (SK.out _ (H7.out.fr.later (below_new _ _)) (blk_alloc K7.out _)) (fun hHeld => ?_)
          clear hK K
          refine norm_ (a' := ?_) ?_ ?_
          rotate_left
          · show Act.put _ (some 36) _ = _
            simp only [Act.put, List.setIfInBounds_toArray, List.set_cons_zero, List.set_cons_succ, i64_w, i32_w]
            rfl
          refine one_ (i := 6) (N := some 37) #[true, true, true, true, true, true, true, false, false] rfl rfl (by kernel_rfl) (by decide) (fun K hK => ?_)
          have hl0 : ((x.f4.take i).map (Fm.chS g)).length = i := by simp; omega
          refine step_append_cells (w0 := w) (W := w7) w.heap.size (by rfl) (.tmp 32) (.tmp 36) 27 29 (.agg #[.int .i64 0, .string ⟨#[]⟩, .int .i64 0, .slice none 0 0, .slice none 0 0]) 5 80 rfl Try.underlying27 infoF rfl (by decide) (by omega) v ((x.f4.take i).map (Fm.chS g)).length inner [.int .i64 (x.f4[i].chS g).f0, .string (x.f4[i].chS g).f1, .int .i64 (x.f4[i].chS g).f2, .slice J3 (x.f4[i].chS g).f3.length q3, .slice J4 (x.f4[i].chS g).f4.length q4] rfl rfl rfl (by simp [Value.oneCell']) (own_base_ H7.out.o4 (fun b hb => by have := (H7.out.ge b (by simp [obs_mem, hb])).1; omega)) H7.out.fr.b H7.out.fr.b.size (by have := HLN.out; rw [hl0]; omega) ?_
          intro v' w8 ho hb8 hg8 hat8
          obtain ⟨fp', hC8⟩ := H7.out.more HLT.out.1 HLT.out.2.2 HLT.out.2.1 HN.out (own_weaken ho (Nat.zero_le _)) hg8 hat8
          have hf8 := H7.out.fr.grown hg8 (fun c hc => H7.out.ge c (by simp [obs_mem, hc]))
          have hv' : ∃ A c, v' = .slice A (((x.f4.take i).map (Fm.chS g)).length + 1) c := by
            rcases ho with ⟨_, ⟨rfl, h0⟩ | ⟨g, cap, cur, rfl, _⟩⟩
            · exact absurd h0 (by omega)
            · exact ⟨_, _, rfl⟩
          rw [hl0] at hv'
          obtain ⟨A', c', rfl⟩ := hv'
          have K8 := Lib.hid (blk_grown K7.out hg8 (fun e => HVL.out _ e.symm rfl))
          have H8 := Lib.hid hf8
          have HC8 := Lib.hid hC8
          clear ho hb8 hg8 hat8 hf8 hC8
          refine hK.out _ _ (SK.out _ H8.out K8.out) (fun hHeld => ?_)
          clear hK K
          refine norm_ (a' := ?_) ?_ ?_
          rotate_left
          · show Act.put _ (some 37) _ = _
            simp only [Act.put, List.setIfInBounds_toArray, List.set_cons_zero, List.set_cons_succ, i64_w, i32_w]
            rfl
          refine pure_ (i := 7) (N := some 38) (v := ?_) (a' := ?_) #[true, true, true, true, true, true, true, true, false] rfl rfl (by kernel_rfl) (fun _ _ _ h => h) (Or.inl ⟨by rfl, ?_⟩) ?_ ?_
          rotate_left
          · intro w'
            go_simp
            with_reducible rfl
          rotate_left
          · simp only [Act.put, List.setIfInBounds_toArray, List.set_cons_zero, List.set_cons_succ, i64_w, i32_w]
            rfl
          refine last_ (i := 8) (N := none) #[true, true, true, true, true, true, true, true, true] rfl rfl (by kernel_rfl) (by decide) (fun K hK => ?_)
          have z4 := (fm_cells H8.out.k3).2.2.2.2
          have f4 := (fm_free H8.out.k3).2.2.2.2
          refine skip_ (w1 := ?_) (by rfl) rfl ?_ ?_
          rotate_left
          · go_simp
            rfl
          refine hK.out _ _ ?_
          clear hK K z4 f4
          refine done_ (by kernel_rfl) ?_
          have HX := Lib.hid (show (x.f4.take i).map (Fm.chS g) ++ [x.f4[i].chS g] = (x.f4.take (i + 1)).map (Fm.chS g) from by rw [List.take_succ_eq_append_getElem hlt, List.map_append]; rfl)
          rw [HX.out] at HC8
          try go_wp2
          go_roundg (x.f4.length - (i + 1))
          case measure => omega
          case rel => exact ⟨i + 1, by omega, Nat.le_refl _, by go_num, ⟨⟨_, _, _, HC8.out⟩⟩⟩
        · obtain rfl : i = x.f4.length := by omega
          obtain ⟨v, inner, fp, hC⟩ := HO.out
          rw [List.take_length] at hC
          obtain ⟨A4', c4', e4', -, -⟩ := hC.tr.C hC.o4
          rw [show ((x.f4).map (Fm.chS g)).length = x.f4.length from by simp] at e4'
          subst e4'
          obtain ⟨p0, p1, p2, p3, p4⟩ := fm_cells hC.fr.k3
          obtain ⟨y0, y1, y2, y3, y4⟩ := fm_cells hC.fr.k1
          obtain ⟨z0, z1, z2, z3, z4⟩ := fm_cells hC.fr.k2
          obtain ⟨f0, f1, f2, f3, f4⟩ := fm_free hC.fr.k2
          have hn1 : (w.heap.size + 1 + 1) ≠ w.heap.size + 1 := by have := hC.fr.h3; omega
          have hn2 : w.heap.size + 1 ≠ (w.heap.size + 1 + 1) := fun e => hn1 e.symm
          obtain ⟨st1, st2, st3⟩ := st5 hC.fr.k2 (.int .i64 x.f0) (.string x.f1) (.int .i64 x.f2) (.slice D3 sc.length e3) (.slice A4' x.f4.length c4')
          have HNF := hC.newF (st2)
          have HN := Lib.hid HNF
          have HB := Lib.hid (st3 _ _ hC.fr.b (by omega))
          clear hC HO st1 st2 st3 HNF
          go_wp2_with fail
          refine bodyPost_ret (v := .agg #[.int .i64 x.f0, .string x.f1, .int .i64 x.f2, (.slice D3 sc.length e3), .slice A4' x.f4.length c4']) (by simp [results, Try.results78, go_sem, z0, z1, z2, z3, z4]) rfl ?_
          rw [Fm.chS_eq, ← HSC.out]
          exact ⟨_, _, by simp, HN.out, HB.out⟩
end Go.Proofs.Ytnaefjilcabkoaa
end
section
namespace Go.Proofs.Ytnaefjilcabkoaa
open Go.RowKit Go.Proofs.YtnaefjilcabkoaaW.PrintWords
set_option linter.unusedVariables false
theorem Ev.some {α : Type} {o : Option α} {r : α} (h : o = some r) : Ev (fun _ => o) r := ⟨0, fun _ _ => h⟩
theorem Ev.pos {α : Type} {c : Prop} [Decidable c] {a b : Nat → Option α} {r : α} (h : c) (e : Ev a r) : Ev (fun k => if c then a k else b k) r := by
  simp only [if_pos h]; exact e
theorem Ev.neg {α : Type} {c : Prop} [Decidable c] {a b : Nat → Option α} {r : α} (h : ¬ c) (e : Ev b r) : Ev (fun k => if c then a k else b k) r := by
  simp only [if_neg h]; exact e
theorem ev_loop {R S : Type} {L : Nat → S → Option R} (Inv : Nat → S → Prop) (n : Nat) (Post : R → Prop)
    (hs : ∀ i s, i < n → Inv i s → ∃ s', Inv (i + 1) s' ∧ ∀ r, Ev (fun k => L k s') r → Ev (fun k => L k s) r)
    (he : ∀ s, Inv n s → ∃ r, Post r ∧ Ev (fun k => L k s) r) : ∀ s, Inv 0 s → ∃ r, Post r ∧ Ev (fun k => L k s) r := by
  have key : ∀ m i s, i + m = n → Inv i s → ∃ r, Post r ∧ Ev (fun k => L k s) r := by
    intro m
    induction m with
    | zero => intro i s hi h; obtain rfl : i = n := by omega
              exact he s h
    | succ m ih =>
      intro i s hi h
      obtain ⟨s', h', hk⟩ := hs i s (by omega) h
      obtain ⟨r, hp, hr⟩ := ih (i + 1) s' (by omega) h'
      exact ⟨r, hp, hk r hr⟩
  exact fun s h => key n 0 s (by omega) h
theorem wr1 (i : Nat) (h : i < 4611686018427387904) : wrap64 ((i : Int) + 1) = ((i + 1 : Nat) : Int) := by
  rw [Go.IntWalk.wrap64_in _ ⟨by omega, by omega⟩]; omega
theorem takeS {α : Type} {l : List α} {i : Nat} (h : i < l.length) : l.take i ++ [l[i]] = l.take (i + 1) := (List.take_succ_eq_append_getElem h).symm
end Go.Proofs.Ytnaefjilcabkoaa
end
