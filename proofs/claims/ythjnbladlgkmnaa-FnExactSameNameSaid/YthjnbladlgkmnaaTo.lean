/- Contracts of toForm, toFormS: a copy in new memory. -/
import Derived.Test.YthjnbladlgkmnaaInt
import Derived.Test.YthjnbladlgkmnaaMath
import Derived.Test.YthjnbladlgkmnaaTree
namespace Go.Proofs.Ythjnbladlgkmnaa
open Go.RowKit Go.Proofs.YthjnbladlgkmnaaW.PrintWords Go.Proofs.YthjnbladlgkmnaaW.PrintLast Go.Proofs.YthjnbladlgkmnaaW.PrintMore
set_option linter.unusedVariables false
set_option linter.unusedSimpArgs false

theorem infoF : (Try.prog.info? 34).map (fun i => (i.zero, i.size, i.bytes)) = some (some (.agg #[(.int .i64 0), (.string ⟨#[]⟩), (.int .i64 0), (.slice none 0 0), (.slice none 0 0)]), 5, 80) := by kernel_rfl
/-- A form in new memory, from block B on. -/
def NewF (B : Nat) (w' : World) (x : Fm) (v3 v4 : Value) : Prop := ∃ fp, TrF w' x v3 v4 fp ∧ fp.Nodup ∧ ∀ b, b ∈ fp → B ≤ b
/-- A list of forms in new memory, from block B on. -/
def NewL (B : Nat) (w' : World) (ks : List Fm) (v : Value) : Prop := ∃ inner fp, w'.ownsRow 0 34 5 v ks.length inner ∧ TrL w' ks inner fp ∧ (obs v ++ fp).Nodup ∧ ∀ b, b ∈ obs v ++ fp → B ≤ b
def RetF (w : World) (x : Fm) (e : Ending) (w' : World) : Prop := ∃ v3 v4, e = .returned (.agg #[.int .i64 x.kind, .string x.name, .int .i64 x.num, v3, v4]) ∧ NewF w.heap.size w' x v3 v4 ∧ Below w.heap.size w w'
def RetL (w : World) (ks : List Fm) (e : Ending) (w' : World) : Prop := ∃ v, e = .returned v ∧ NewL w.heap.size w' ks v ∧ Below w.heap.size w w'

theorem trz (w : World) : TrF w zFm (.slice none 0 0) (.slice none 0 0) [] := by
  have := TrF.mk (w := w) zFm (.slice none 0 0) (.slice none 0 0) [] [] (own_nil _ _ _ _) (own_nil _ _ _ _) .nil
  simpa [obs, Value.ownBlock] using this
abbrev zc : List Value := [.int .i64 0, .string ⟨#[]⟩, .int .i64 0, .slice none 0 0, .slice none 0 0]
theorem trz_list (w : World) : ∀ n, TrL w (List.replicate n zFm) (List.replicate n zc).flatten []
  | 0 => .nil
  | n + 1 => by
    have h := TrL.cons zFm (List.replicate n zFm) _ _ _ [] [] (trz w) (trz_list w n)
    rw [List.replicate_succ, List.replicate_succ, List.flatten_cons]
    exact h
theorem zc_raw (w : World) (base : Nat) (ok : Nat → Prop) : (Kd.raw 5).M w base ok zc (Value.agg #[(.int .i64 0), (.string ⟨#[]⟩), (.int .i64 0), (.slice none 0 0), (.slice none 0 0)]).cells.toList := by
  refine ⟨rfl, rfl, fun u hu => ?_⟩
  have hu' : u ∈ zc := hu
  simp only [zc, List.mem_cons, List.not_mem_nil, or_false] at hu'
  rcases hu' with rfl | rfl | rfl | rfl | rfl <;> rfl
theorem reps_flat {sz : Nat} (hs : 0 < sz) : ∀ (rows : List (List Value)) (inner : List Value), Reps (fun x cs => cs = x ∧ cs.length = sz ∧ ∀ u ∈ cs, u.oneCell' = true) sz rows inner → inner = rows.flatten := by
  intro rows
  induction rows with
  | nil => intro inner h; have := h.1; simp at this; simp [this]
  | cons r rows ih =>
    intro inner h
    have h0 := h.2 0 r rfl
    simp only [Nat.zero_mul, List.drop_zero] at h0
    have h1 : Reps (fun x cs => cs = x ∧ cs.length = sz ∧ ∀ u ∈ cs, u.oneCell' = true) sz rows (inner.drop sz) := by
      refine ⟨by rw [List.length_drop, h.1, List.length_cons, Nat.add_mul]; omega, fun j p hj => ?_⟩
      have := h.2 (j + 1) p (by simpa using hj)
      rwa [Nat.add_mul, Nat.one_mul, Nat.add_comm, ← List.drop_drop] at this
    rw [List.flatten_cons, ← ih _ h1, ← h0.1, List.take_append_drop]
/-- What make([]Form, n) leaves. -/
theorem zeros_of {w : World} {base : Nat} {ok : Nat → Prop} {v : Value} {n : Nat} (h : (Kd.raw 5).R 34 w base ok v (List.replicate n zc)) : w.ownsRow 0 34 5 v n (List.replicate n zc).flatten := by
  obtain ⟨_, inner, ho, hr⟩ := h
  rw [reps_flat (by omega) _ _ hr, List.length_replicate] at ho
  exact own_weaken ho (Nat.zero_le _)
def ToForm (x : Fm) : Prop := ∀ (A3 : Option Addr) (c3 : Nat) (A4 : Option Addr) (c4 : Nat) (w : World), FmIn w x A3 c3 A4 c4 → x.tot ≤ 1048576 →
    Calls Try.prog 36 #[.agg #[.int .i64 x.kind, .string x.name, .int .i64 x.num, .slice A3 x.sc.length c3, .slice A4 x.kids.length c4]] w (RetF w x)
set_option maxHeartbeats 4000000 in
theorem toFormS_of (ks : List Fm) (hks : ∀ k, k ∈ ks → ToForm k) (A : Option Addr) (c : Nat) (w : World) (hr : kF.C w A ks.length ks) (hc : ks.length ≤ c) (ht : totL ks ≤ 1048576) :
    Calls Try.prog 66 #[.slice A ks.length c] w (RetL w ks) := by
  have hmax := hr.2.1
  have hlen := len_totL ks
  have HK := Lib.hid hks
  clear hks
  go_enter Try.func66, Try.ntmps66
  go_wp2_with (first | ((with_reducible refine gate_dst (N := 7) rfl ?_); refine Kd.R_make (Kd.raw 5) _ 34 rfl (N := 7) rfl 32 _ _ rfl (ks.length : Int) rfl rfl Try.underlying32 (.agg #[(.int .i64 0), (.string ⟨#[]⟩), (.int .i64 0), (.slice none 0 0), (.slice none 0 0)]) 80 infoF rfl (by decide) (by omega) zc (ok := fun _ => True) (okp := fun _ => True) (zc_raw _ _ _) (fun _ hk => hk) trivial (by omega) (by omega) (Below.refl _ _) (Nat.le_refl _) ?_; intro v0 w0 ho0 hb0 hg0 hn0))
  rw [Int.toNat_natCast] at ho0
  have hz := zeros_of ho0
  obtain ⟨bn, hbn1, hbn2⟩ := hn0
  go_loopg [4] ks.length (fun kq v4 w' => ∃ i : Nat, i ≤ ks.length ∧ ks.length - i ≤ kq ∧ v4 = .int .i64 i ∧ Aside0 (∃ inner fp, w'.ownsRow 0 34 5 v0 ks.length (inner ++ (List.replicate (ks.length - i) zc).flatten) ∧ TrL w' (ks.take i) inner fp ∧ (obs v0 ++ fp).Nodup ∧ ∀ b, b ∈ obs v0 ++ fp → w.heap.size ≤ b) ∧ Aside0 (Below w.heap.size w w'))
  case atStart =>
    refine ⟨0, Nat.zero_le _, by omega, rfl, ⟨[], [], by simpa using hz, by simpa using TrL.nil, by simp [obs, hbn1], by simpa [obs, hbn1] using hbn2⟩, ⟨hb0⟩⟩
  case round =>
    obtain ⟨i, hi, hg, rfl, HO, HW⟩ := hrel
    clear ho0 hz hb0 hg0 hbn1 hbn2
    by_cases hlt : i < ks.length
    · obtain ⟨ad, B3, d3, B4, d4, e, g0, g1, g2, g3, g4, hk⟩ := kid_at (Kd.C_below hr HW.out) i hlt
      subst e
      have hkt := totL_mem (List.getElem_mem hlt)
      have HC := Lib.hid (HK.out ks[i] (List.getElem_mem hlt) B3 d3 B4 d4 wr hk (by omega))
      clear hk
      go_wp2_with fail
      refine HC.out.mono ?_
      rintro e w1 ⟨v3, v4, rfl, HN, hb1⟩
      obtain ⟨C3, j3, C4, j4, e3, e4⟩ : ∃ C3 j3 C4 j4, v3 = .slice C3 ks[i].sc.length j3 ∧ v4 = .slice C4 ks[i].kids.length j4 := by
        obtain ⟨fk, hkt2, _⟩ := HN
        obtain ⟨C3, j3, C4, j4, e3, e4, _⟩ := hkt2.In
        exact ⟨C3, j3, C4, j4, e3, e4⟩
      subst e3
      subst e4
      have HO2 := HO.out
      clear HO
      obtain ⟨inner, fp, ho, htr, hnd, hge⟩ := HO2
      rw [show ks.length - i = (ks.length - (i + 1)) + 1 from by omega, List.replicate_succ, List.flatten_cons] at ho
      obtain ⟨g, cap, e, hg0, hg1⟩ := ho.form (by omega)
      subst e
      have ho1 := own_move (w1 := w1) ho (fun k hk => by
        have : g = k := by simpa [Value.ownBlock] using hk
        subst this
        exact hb1.block g hg1)
      have htr1 := htr.later hb1
      have hl := htr.len
      rw [List.length_take, Nat.min_eq_left hi] at hl
      obtain ⟨⟨q0, q1, q2, q3, q4⟩, hfz, hput⟩ := row_put ho1 hl
      have z0 := hfz (i * 5)
      have z1 := hfz (i * 5 + 1)
      have z2 := hfz (i * 5 + 2)
      have z3 := hfz (i * 5 + 3)
      have z4 := hfz (i * 5 + 4)
      have hgw : w.heap.size ≤ g := hge g (by simp [obs, Value.ownBlock])
      have HF : Hid (∃ inner' fp', (set5 w1 g (i * 5) (.int .i64 ks[i].kind) (.string ks[i].name) (.int .i64 ks[i].num) (.slice C3 ks[i].sc.length j3) (.slice C4 ks[i].kids.length j4)).ownsRow 0 34 5 (.slice (some ⟨g, 0, none⟩) ks.length cap) ks.length (inner' ++ (List.replicate (ks.length - (i + 1)) zc).flatten) ∧ TrL (set5 w1 g (i * 5) (.int .i64 ks[i].kind) (.string ks[i].name) (.int .i64 ks[i].num) (.slice C3 ks[i].sc.length j3) (.slice C4 ks[i].kids.length j4)) (ks.take (i + 1)) inner' fp' ∧ (obs (.slice (some ⟨g, 0, none⟩) ks.length cap) ++ fp').Nodup ∧ ∀ b, b ∈ obs (.slice (some ⟨g, 0, none⟩) ks.length cap) ++ fp' → w.heap.size ≤ b) := by
        obtain ⟨fk, hkt2, hknd, hkge⟩ := HN
        have hold : ∀ b, b ∈ obs (Value.slice (some ⟨g, 0, none⟩) ks.length cap) ++ fp → b < wr.heap.size := by
          intro b hb
          rcases List.mem_append.1 hb with hb | hb
          · have : b = g := by simpa [obs, Value.ownBlock] using hb
            omega
          · exact htr.lt _ b hb
        have hgf : ∀ b, b ∈ fp → b ≠ g := by
          intro b hb he
          subst he
          rw [show obs (Value.slice (some ⟨b, 0, none⟩) ks.length cap) = [b] from rfl] at hnd
          simp [hb] at hnd
        have hgk : ∀ b, b ∈ fk → b ≠ g := by
          intro b hb he
          have := hkge b hb
          omega
        refine ⟨inner ++ [.int .i64 ks[i].kind, .string ks[i].name, .int .i64 ks[i].num, .slice C3 ks[i].sc.length j3, .slice C4 ks[i].kids.length j4], fp ++ fk, ?_, ?_, ?_, ?_⟩
        · rw [List.append_assoc]
          exact hput _ _ _ _ _
        · rw [List.take_succ_eq_append_getElem hlt]
          exact (htr1.move _ (fun b hb => set5_far _ _ _ _ _ _ _ _ b (hgf b hb))).append (TrL.one (hkt2.move _ (fun b hb => set5_far _ _ _ _ _ _ _ _ b (hgk b hb))))
        · rw [← List.append_assoc, List.nodup_append]
          refine ⟨hnd, hknd, fun a ha b hb he => ?_⟩
          have h1 := hold a ha
          have h2 := hkge b hb
          omega
        · intro b hb
          rw [← List.append_assoc] at hb
          rcases List.mem_append.1 hb with hb | hb
          · exact hge b hb
          · have h2 := hkge b hb
            have := HW.out.size
            omega
      have HB := Lib.hid (set5_below (below_step HW.out hb1) hgw (i * 5) (.int .i64 ks[i].kind) (.string ks[i].name) (.int .i64 ks[i].num) (.slice C3 ks[i].sc.length j3) (.slice C4 ks[i].kids.length j4))
      clear HN ho ho1 htr htr1 hnd hge hl hfz hput hgw hg0 hg1
      go_wp2_with fail
      go_roundg (ks.length - (i + 1))
      case measure => omega
      case rel => exact ⟨i + 1, by omega, Nat.le_refl _, by go_num, ⟨HF.out⟩, ⟨HB.out⟩⟩
    · obtain rfl : i = ks.length := by omega
      have HF : Hid (NewL w.heap.size wr ks v0) := by
        obtain ⟨inner, fp, ho, htr, hnd, hge⟩ := HO.out
        rw [Nat.sub_self] at ho
        rw [List.take_length] at htr
        exact ⟨inner, fp, by simpa using ho, htr, hnd, hge⟩
      clear HO
      go_wp2_with fail
      go_ret
      exact ⟨_, rfl, HF.out, HW.out⟩
set_option maxHeartbeats 4000000 in
theorem toForm_any (x : Fm) : ToForm x := by
  induction x using Fm.ind with
  | h x ih =>
    intro A3 c3 A4 c4 w hin ht
    have hs := Fm.tot_eq x
    have hs3 : x.sc.length ≤ 1048576 := by omega
    have hs4 : totL x.kids ≤ 1048576 := by omega
    clear hs ht
    have H3 := Lib.hid (fun W hb => toIntS_any x.sc A3 c3 W (Kd.C_below hin.g3 hb) hin.l3 (by omega))
    have H4 := Lib.hid (fun W hb => toFormS_of x.kids ih A4 c4 W (Kd.C_below hin.g4 hb) hin.l4 hs4)
    clear ih hin
    go_enter Try.func36, Try.ntmps36
    go_wp2_with fail
    refine (H3.out _ (below_step (below_step (below_new _ _) (below_new _ _)) (below_new _ _))).mono ?_
    rintro e w1 ⟨v3, rfl, hR3, hb1⟩
    obtain ⟨k0, k1, k2, b1⟩ := three_new hb1
    clear hb1
    obtain ⟨p0, p1, p2, p3, p4⟩ := fm_cells k0
    obtain ⟨q0, q1, q2, q3, q4⟩ := fm_cells k2
    obtain ⟨f0, f1, f2, f3, f4⟩ := fm_free k2
    obtain ⟨D3, e3, r3, _, _⟩ := Kd.R_reads hR3
    subst r3
    go_wp2_with fail
    have bw := below_set b1 (show w.heap.size ≤ w.heap.size + 1 + 1 by omega) (j := 3) (v := .slice D3 x.sc.length e3)
    refine (H4.out _ bw).mono ?_
    rintro e w2 ⟨v4, rfl, HL, hb2⟩
    have m2 := blk_below (by simpa using blk_set k2 3 (.slice D3 x.sc.length e3)) hb2
    have m1 := blk_below (blk_far k1 (p := ⟨w.heap.size + 1 + 1, 3, none⟩) (by simp) (.slice D3 x.sc.length e3)) hb2
    have b2 := below_step bw hb2
    obtain ⟨s0, s1, s2, s3, s4⟩ := fm_cells m2
    obtain ⟨t0, t1, t2, t3, t4⟩ := fm_free m2
    obtain ⟨u0, u1, u2, u3, u4⟩ := fm_cells m1
    obtain ⟨y0, y1, y2, y3, y4⟩ := fm_free m1
    have h3b := Kd.R_base hR3
    have h3l := Kd.R_lt hR3
    have h3o := Kd.own_of_R hR3
    obtain ⟨inner, fp, h4o, htl, hnd, hge⟩ := HL
    obtain ⟨D4, e4, hd4, _, _⟩ := htl.C h4o
    subst hd4
    have hwsz : ((((w.alloc (.cells #[.int .i64 x.kind, .string x.name, .int .i64 x.num, .slice A3 x.sc.length c3, .slice A4 x.kids.length c4] 29)).alloc (.cells #[.int .i64 0, .string ⟨#[]⟩, .int .i64 0, .slice none 0 0, .slice none 0 0] 34)).alloc (.cells #[.int .i64 x.kind, .string x.name, .int .i64 x.num, .slice none 0 0, .slice none 0 0] 34)) : World).heap.size = w.heap.size + 3 := by simp
    have HF : Hid (∀ W, (∀ b, b ≠ w.heap.size + 1 → b ≠ w.heap.size + 1 + 1 → W.heap[b]? = w2.heap[b]?) → NewF w.heap.size W x (.slice D3 x.sc.length e3) (.slice D4 x.kids.length e4)) := by
      intro W hW
      have hsz1 := k2
      have hlt1 : w.heap.size + 1 + 1 < w1.heap.size := blk_lt k2
      have hge2 : ∀ b, b ∈ obs (.slice D4 x.kids.length e4) ++ fp → w1.heap.size ≤ b := by
        intro b hb
        have := hge b hb
        simpa using this
      have hge3 : ∀ b, b ∈ obs (.slice D3 x.sc.length e3) → w.heap.size + 1 + 1 < b ∧ b < w1.heap.size := by
        intro b hb
        have e := obs_mem.1 hb
        have h1 := h3b b e
        have h2 := h3l b e
        simp at h1
        omega
      refine ⟨_, .mk x _ _ inner fp ?_ ?_ ?_, ?_, ?_⟩
      · refine own_move (own_weaken h3o (Nat.zero_le _)) (fun k hk => ?_)
        have hk2 := hge3 k (obs_mem.2 hk)
        rw [hW k (by omega) (by omega), hb2.block k (by simp; omega), Below.heap_setCell _ _ _ _ (by simp; omega)]
      · refine own_move h4o (fun k hk => ?_)
        have hk2 := hge2 k (List.mem_append_left _ (obs_mem.2 hk))
        exact hW k (by omega) (by omega)
      · refine htl.move _ (fun k hk => ?_)
        have hk2 := hge2 k (List.mem_append_right _ hk)
        exact hW k (by omega) (by omega)
      · rw [List.nodup_append]
        refine ⟨?_, hnd, fun a ha b hb he => ?_⟩
        · unfold obs
          cases (Value.slice D3 x.sc.length e3).ownBlock <;> simp
        · have h1 := hge3 a ha
          have h2 := hge2 b hb
          omega
      · intro b hb
        rcases List.mem_append.1 hb with hb | hb
        · have := hge3 b hb
          omega
        · have := hge2 b hb
          omega
    clear h3b h3l h3o h4o htl hnd hge hwsz hR3 k0 k1 k2 m1 m2 hb2 bw H3 H4
    go_wp2_with fail
    refine bodyPost_ret (v := .agg #[.int .i64 x.kind, .string x.name, .int .i64 x.num, .slice D3 x.sc.length e3, .slice D4 x.kids.length e4]) (by simp [results, Try.results36, go_sem, u0, u1, u2, u3, u4]) rfl ⟨_, _, rfl, HF.out _ (fun b hb1 hb2 => ?_), ?_⟩
    · rw [Below.heap_setCell _ _ _ b hb1, Below.heap_setCell _ _ _ b hb1, Below.heap_setCell _ _ _ b hb1, Below.heap_setCell _ _ _ b hb1, Below.heap_setCell _ _ _ b hb1, Below.heap_setCell _ _ _ b hb2]
    · repeat (refine below_set ?_ (by omega))
      exact b2
end Go.Proofs.Ythjnbladlgkmnaa
