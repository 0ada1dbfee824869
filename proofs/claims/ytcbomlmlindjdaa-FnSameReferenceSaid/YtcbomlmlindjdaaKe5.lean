/- Words for the laws' proofs (part 5): contracts of functions, and plain lemmas. -/
import Derived.Laws.BitsLemmas
import Derived.Test.YtcbomlmlindjdaaKe1
import Derived.Test.YtcbomlmlindjdaaKe2
import Derived.Test.YtcbomlmlindjdaaKe3
import Derived.Test.YtcbomlmlindjdaaKe4
section
namespace Go.Proofs.Ytcbomlmlindjdaa
open Go.RowKit Go.Proofs.YtcbomlmlindjdaaW.PrintWords Go.Proofs.YtcbomlmlindjdaaW.PrintLast Go.Proofs.YtcbomlmlindjdaaW.PrintMore
set_option linter.unusedVariables false
set_option linter.unusedSimpArgs false
def BdL (w : World) : List Bd → List Value → List Nat → Prop
  | [], inner, fp => inner = [] ∧ fp = []
  | b :: l, inner, fp => ∃ v1 rest fs, inner = [.string b.f0, v1, .int .i64 b.f2] ++ rest ∧ fp = obs v1 ++ fs ∧ w.ownsRow 0 3 1 v1 b.f1.length (encI b.f1) ∧ BdL w l rest fs
theorem BdL.len {w : World} : ∀ {l : List Bd} {inner : List Value} {fp : List Nat}, BdL w l inner fp → inner.length = l.length * 3
  | [], inner, fp, h => by rw [h.1]; rfl
  | b :: l, inner, fp, h => by
    obtain ⟨v1, rest, fs, rfl, rfl, _, hs⟩ := h
    have := BdL.len hs
    simp [this]; omega
theorem BdL.append {w : World} : ∀ {a b : List Bd} {ia ib : List Value} {fa fb : List Nat}, BdL w a ia fa → BdL w b ib fb → BdL w (a ++ b) (ia ++ ib) (fa ++ fb)
  | [], b, ia, ib, fa, fb, ha, hb => by obtain ⟨rfl, rfl⟩ := ha; exact hb
  | x :: a, b, ia, ib, fa, fb, ha, hb => by
    obtain ⟨v1, rest, fs, rfl, rfl, h1, hs⟩ := ha
    exact ⟨v1, rest ++ ib, fs ++ fb, by rw [List.append_assoc], by rw [List.append_assoc], h1, BdL.append hs hb⟩
theorem BdL.one {w : World} {b : Bd} {v1 : Value} (h : w.ownsRow 0 3 1 v1 b.f1.length (encI b.f1)) : BdL w [b] [.string b.f0, v1, .int .i64 b.f2] (obs v1) :=
  ⟨v1, [], [], rfl, by simp, h, rfl, rfl⟩
theorem BdL.move {w w1 : World} : ∀ {l : List Bd} {inner : List Value} {fp : List Nat}, BdL w l inner fp → (∀ b, b ∈ fp → w1.heap[b]? = w.heap[b]?) → BdL w1 l inner fp
  | [], inner, fp, h, _ => h
  | b :: l, inner, fp, h, hm => by
    obtain ⟨v1, rest, fs, rfl, rfl, h1, hs⟩ := h
    exact ⟨v1, rest, fs, rfl, rfl, own_move h1 (fun k hk => hm k (List.mem_append_left _ (obs_mem.2 hk))), BdL.move hs (fun k hk => hm k (List.mem_append_right _ hk))⟩
theorem BdL.lt {w : World} : ∀ {l : List Bd} {inner : List Value} {fp : List Nat}, BdL w l inner fp → ∀ b, b ∈ fp → b < w.heap.size
  | [], inner, fp, h, b, hb => by rw [h.2] at hb; cases hb
  | x :: l, inner, fp, h, b, hb => by
    obtain ⟨v1, rest, fs, rfl, rfl, h1, hs⟩ := h
    rcases List.mem_append.1 hb with q | q
    · exact own_lt h1 b (obs_mem.1 q)
    · exact BdL.lt hs b q
theorem BdL.later {w w1 : World} {l : List Bd} {inner : List Value} {fp : List Nat} (h : BdL w l inner fp) (hb : Below w.heap.size w w1) : BdL w1 l inner fp := h.move (fun b hb2 => hb.block b (h.lt b hb2))
abbrev set3 (w : World) (g o : Nat) (b0 b1 b2 : Value) : World := ((w.setCell ⟨g, o, none⟩ b0).setCell ⟨g, o + 1, none⟩ b1).setCell ⟨g, o + 2, none⟩ b2
theorem row_put3 {w : World} {e g n cap i : Nat} {inner rest : List Value} {a0 a1 a2 : Value} (h : w.ownsRow 0 e 3 (.slice (some ⟨g, 0, none⟩) n cap) n (inner ++ ([a0, a1, a2] ++ rest))) (hl : inner.length = i * 3) :
    (w.cell? ⟨g, i * 3, none⟩ = some a0 ∧ w.cell? ⟨g, i * 3 + 1, none⟩ = some a1 ∧ w.cell? ⟨g, i * 3 + 2, none⟩ = some a2) ∧
    (∀ j, w.frozen? ⟨g, j, none⟩ = false) ∧
    ∀ b0 b1 b2, (set3 w g (i * 3) b0 b1 b2).ownsRow 0 e 3 (.slice (some ⟨g, 0, none⟩) n cap) n (inner ++ ([b0, b1, b2] ++ rest)) := by
  have hn : inner.length + 3 + rest.length = n * 3 := by have := h.1; simp at this; omega
  have hc : ∀ j, j < 3 → w.cell? ⟨g, i * 3 + j, none⟩ = ([a0, a1, a2] ++ rest)[j]? := by
    intro j hj
    rw [World.ownsRow.cellAt h _ (by omega), List.getElem?_append_right (by omega)]
    congr 1
    omega
  refine ⟨⟨hc 0 (by omega), hc 1 (by omega), hc 2 (by omega)⟩, fun j => World.ownsRow.frozenAt h j, fun b0 b1 b2 => ?_⟩
  have s0 := (World.ownsRow.stored h (i * 3) b0).1
  have s1 := (World.ownsRow.stored s0 (i * 3 + 1) b1).1
  have s2 := (World.ownsRow.stored s1 (i * 3 + 2) b2).1
  have e : ((((inner ++ ([a0, a1, a2] ++ rest)).set (i * 3) b0).set (i * 3 + 1) b1).set (i * 3 + 2) b2) = inner ++ ([b0, b1, b2] ++ rest) := by
    rw [← hl]
    simp [List.set_append]
  rw [e] at s2
  exact s2
/-- The list at place i: its row, and how it is put together again. -/
theorem BdL.at_ {w : World} : ∀ {m : List Bd} {inner : List Value} {fp : List Nat}, BdL w m inner fp → ∀ (i : Nat) (h : i < m.length), ∃ ia v1 ib fa fb, inner = ia ++ ([.string m[i].f0, v1, .int .i64 m[i].f2] ++ ib) ∧ fp = fa ++ (obs v1 ++ fb) ∧ ia.length = i * 3 ∧ w.ownsRow 0 3 1 v1 m[i].f1.length (encI m[i].f1) ∧
    ∀ (w1 : World) (b : Bd), (∀ k, k ∈ fa ++ fb → w1.heap[k]? = w.heap[k]?) → w1.ownsRow 0 3 1 v1 b.f1.length (encI b.f1) → BdL w1 (m.set i b) (ia ++ ([.string b.f0, v1, .int .i64 b.f2] ++ ib)) fp
  | [], inner, fp, h, i, hi => absurd hi (Nat.not_lt_zero _)
  | x :: m, inner, fp, h, 0, hi => by
    obtain ⟨v1, rest, fs, rfl, rfl, h1, hs⟩ := h
    refine ⟨[], v1, rest, [], fs, rfl, rfl, rfl, h1, fun w1 b hm hb => ?_⟩
    exact ⟨v1, rest, fs, rfl, rfl, hb, hs.move (fun k hk => hm k (by simpa using hk))⟩
  | x :: m, inner, fp, h, i + 1, hi => by
    obtain ⟨v1, rest, fs, rfl, rfl, h1, hs⟩ := h
    obtain ⟨ia, v2, ib, fa, fb, rfl, rfl, hl, h2, hput⟩ := BdL.at_ hs i (by simpa using hi)
    refine ⟨[.string x.f0, v1, .int .i64 x.f2] ++ ia, v2, ib, obs v1 ++ fa, fb, by simp, by simp, by simp [hl]; omega, by simpa using h2, fun w1 b hm hb => ?_⟩
    refine ⟨v1, ia ++ ([.string b.f0, v2, .int .i64 b.f2] ++ ib), fa ++ (obs v2 ++ fb), by simp, by simp, own_move h1 (fun k hk => hm k (by simp [obs_mem, hk])), ?_⟩
    exact hput w1 b (fun k hk => hm k (by rcases List.mem_append.1 hk with q | q <;> simp [q])) hb
theorem row_at3 {w : World} {e g n cap i : Nat} {inner rest : List Value} {a0 a1 a2 : Value} (h : w.ownsRow 0 e 3 (.slice (some ⟨g, 0, none⟩) n cap) n (inner ++ ([a0, a1, a2] ++ rest))) (hl : inner.length = i * 3) :
    (∀ b, (w.setCell ⟨g, i * 3, none⟩ b).ownsRow 0 e 3 (.slice (some ⟨g, 0, none⟩) n cap) n (inner ++ ([b, a1, a2] ++ rest))) ∧ (∀ b, (w.setCell ⟨g, i * 3 + 2, none⟩ b).ownsRow 0 e 3 (.slice (some ⟨g, 0, none⟩) n cap) n (inner ++ ([a0, a1, b] ++ rest))) := by
  refine ⟨fun b => ?_, fun b => ?_⟩
  · have s0 := (World.ownsRow.stored h (i * 3) b).1
    have e : (inner ++ ([a0, a1, a2] ++ rest)).set (i * 3) b = inner ++ ([b, a1, a2] ++ rest) := by rw [← hl]; simp [List.set_append]
    rwa [e] at s0
  · have s0 := (World.ownsRow.stored h (i * 3 + 2) b).1
    have e : (inner ++ ([a0, a1, a2] ++ rest)).set (i * 3 + 2) b = inner ++ ([a0, a1, b] ++ rest) := by rw [← hl]; simp [List.set_append]
    rwa [e] at s0
theorem BdL.at2 {w : World} : ∀ {m : List Bd} {inner : List Value} {fp : List Nat}, BdL w m inner fp → ∀ (i : Nat) (h : i < m.length), ∃ ia v1 ib fa fb, inner = ia ++ ([.string m[i].f0, v1, .int .i64 m[i].f2] ++ ib) ∧ fp = fa ++ (obs v1 ++ fb) ∧ ia.length = i * 3 ∧ w.ownsRow 0 3 1 v1 m[i].f1.length (encI m[i].f1) ∧
    ∀ (w1 : World) (b : Bd) (u : Value), (∀ k, k ∈ fa ++ fb → w1.heap[k]? = w.heap[k]?) → w1.ownsRow 0 3 1 u b.f1.length (encI b.f1) → BdL w1 (m.set i b) (ia ++ ([.string b.f0, u, .int .i64 b.f2] ++ ib)) (fa ++ (obs u ++ fb))
  | [], inner, fp, h, i, hi => absurd hi (Nat.not_lt_zero _)
  | x :: m, inner, fp, h, 0, hi => by
    obtain ⟨v1, rest, fs, rfl, rfl, h1, hs⟩ := h
    refine ⟨[], v1, rest, [], fs, rfl, rfl, rfl, h1, fun w1 b u hm hb => ?_⟩
    exact ⟨u, rest, fs, rfl, rfl, hb, hs.move (fun k hk => hm k (by simpa using hk))⟩
  | x :: m, inner, fp, h, i + 1, hi => by
    obtain ⟨v1, rest, fs, rfl, rfl, h1, hs⟩ := h
    obtain ⟨ia, v2, ib, fa, fb, rfl, rfl, hl, h2, hput⟩ := BdL.at2 hs i (by simpa using hi)
    refine ⟨[.string x.f0, v1, .int .i64 x.f2] ++ ia, v2, ib, obs v1 ++ fa, fb, by simp, by simp, by simp [hl]; omega, by simpa using h2, fun w1 b u hm hb => ?_⟩
    refine ⟨v1, ia ++ ([.string b.f0, u, .int .i64 b.f2] ++ ib), fa ++ (obs u ++ fb), by simp, by simp, own_move h1 (fun k hk => hm k (by simp [obs_mem, hk])), ?_⟩
    exact hput w1 b u (fun k hk => hm k (by rcases List.mem_append.1 hk with q | q <;> simp [q])) hb
theorem row_at3m {w : World} {e g n cap i : Nat} {inner rest : List Value} {a0 a1 a2 : Value} (h : w.ownsRow 0 e 3 (.slice (some ⟨g, 0, none⟩) n cap) n (inner ++ ([a0, a1, a2] ++ rest))) (hl : inner.length = i * 3) :
    ∀ b, (w.setCell ⟨g, i * 3 + 1, none⟩ b).ownsRow 0 e 3 (.slice (some ⟨g, 0, none⟩) n cap) n (inner ++ ([a0, b, a2] ++ rest)) := by
  intro b
  have s0 := (World.ownsRow.stored h (i * 3 + 1) b).1
  have e : (inner ++ ([a0, a1, a2] ++ rest)).set (i * 3 + 1) b = inner ++ ([a0, b, a2] ++ rest) := by rw [← hl]; simp [List.set_append]
  rwa [e] at s0
/-- A list of bindings in new memory, from block B on. -/
def NewB (B : Nat) (w' : World) (l : List Bd) (v : Value) : Prop := ∃ inner fp, w'.ownsRow 0 36 3 v l.length inner ∧ BdL w' l inner fp ∧ (obs v ++ fp).Nodup ∧ ∀ b, b ∈ obs v ++ fp → B ≤ b
theorem NewB.lt {B : Nat} {w : World} {l : List Bd} {v : Value} {inner : List Value} {fp : List Nat} (ho : w.ownsRow 0 36 3 v l.length inner) (ht : BdL w l inner fp) : ∀ b, b ∈ obs v ++ fp → b < w.heap.size := fun b hb => by
  rcases List.mem_append.1 hb with q | q
  · exact own_lt ho b (obs_mem.1 q)
  · exact ht.lt b q
theorem NewB.move {B : Nat} {w W : World} {l : List Bd} {v : Value} (h : NewB B w l v) (hm : ∀ b, B ≤ b → b < w.heap.size → W.heap[b]? = w.heap[b]?) : NewB B W l v := by
  obtain ⟨inner, fp, ho, ht, hn, hg⟩ := h
  have hlt := NewB.lt (B := B) ho ht
  exact ⟨inner, fp, own_move ho (fun k hk => hm k (hg k (List.mem_append_left _ (obs_mem.2 hk))) (hlt k (List.mem_append_left _ (obs_mem.2 hk)))), ht.move (fun k hk => hm k (hg k (List.mem_append_right _ hk)) (hlt k (List.mem_append_right _ hk))), hn, hg⟩
/-- The list's binding i: its cells; what the stores into it leave. -/
structure BdAtI (B : Nat) (w : World) (l : List Bd) (v : Value) (i : Nat) (x : Bd) (gr : Nat) (C : Option Addr) (d : Nat) : Prop where
  ge : B ≤ gr
  lt : gr < w.heap.size
  c0 : w.cell? ⟨gr, i * 3, none⟩ = some (.string x.f0)
  c1 : w.cell? ⟨gr, i * 3 + 1, none⟩ = some (.slice C x.f1.length d)
  c2 : w.cell? ⟨gr, i * 3 + 2, none⟩ = some (.int .i64 x.f2)
  fz : ∀ j, w.frozen? ⟨gr, j, none⟩ = false
  row : w.ownsRow B 3 1 (.slice C x.f1.length d) x.f1.length (encI x.f1)
  ne : ∀ b, (Value.slice C x.f1.length d).ownBlock = some b → b ≠ gr
  id_ : ∀ n, NewB B (w.setCell ⟨gr, i * 3 + 2, none⟩ (.int .i64 n)) (l.set i ⟨x.f0, x.f1, n⟩) v
  sc_ : ∀ (w1 : World) (u : Value) (sc : List Int), w.grownBy w1 (Value.slice C x.f1.length d).ownBlock → w1.ownsRow 0 3 1 u sc.length (encI sc) → (u.ownBlock = (Value.slice C x.f1.length d).ownBlock ∨ ∃ b, u.ownBlock = some b ∧ w.heap.size ≤ b) → w1.cell? ⟨gr, i * 3 + 1, none⟩ = some (.slice C x.f1.length d) ∧ w1.frozen? ⟨gr, i * 3 + 1, none⟩ = false ∧ NewB B (w1.setCell ⟨gr, i * 3 + 1, none⟩ u) (l.set i ⟨x.f0, sc, x.f2⟩) v
theorem NewB.atI {B : Nat} {w : World} {l : List Bd} {v : Value} (h : NewB B w l v) (hB : B ≤ w.heap.size) (i : Nat) (hi : i < l.length) : ∃ gr cap C d, v = .slice (some ⟨gr, 0, none⟩) l.length cap ∧ BdAtI B w l v i l[i] gr C d := by
  obtain ⟨inner, fp, ho, ht, hn, hge⟩ := h
  have hlt := NewB.lt (B := B) ho ht
  obtain ⟨gr, cap, rfl, hg0, hg1⟩ := ho.form (by omega)
  obtain ⟨ia, v1, ib, fa, fb, rfl, rfl, hil, h1, hput⟩ := ht.at2 i hi
  obtain ⟨C, d, rfl, hcap, _⟩ := own_C h1
  generalize l[i] = x at h1 ho hput hcap hge hn hlt
  obtain ⟨⟨z0, z1, z2⟩, hfz, _⟩ := row_put3 ho hil
  have hgm : gr ∈ obs (Value.slice (some ⟨gr, 0, none⟩) l.length cap) := by simp [obs, Value.ownBlock]
  obtain ⟨_, nf, nd⟩ := List.nodup_append.1 hn
  obtain ⟨na, nvb, nd2⟩ := List.nodup_append.1 nf
  obtain ⟨_, nb, nd3⟩ := List.nodup_append.1 nvb
  have hgv : ∀ b, b ∈ obs (Value.slice C x.f1.length d) → b ≠ gr := fun b hb he => nd gr hgm b (by simp [hb]) he.symm
  have hga : ∀ b, b ∈ fa ++ fb → b ≠ gr := fun b hb he => nd gr hgm b (by rcases List.mem_append.1 hb with q | q <;> simp [q]) he.symm
  have hva : ∀ b, b ∈ fa ++ fb → b ∉ obs (Value.slice C x.f1.length d) := fun b hb hv => by
    rcases List.mem_append.1 hb with q | q
    · exact nd2 b q b (List.mem_append_left _ hv) rfl
    · exact nd3 b hv b q rfl
  have hgo : ∀ b, (Value.slice (some ⟨gr, 0, none⟩) l.length cap).ownBlock = some b → b = gr := fun b hb => by
    have : gr = b := by simpa [Value.ownBlock] using hb
    exact this.symm
  refine ⟨gr, cap, C, d, rfl, hge gr (List.mem_append_left _ hgm), hg1, z0, z1, z2, hfz, ?_, fun b hb => hgv b (obs_mem.2 hb), fun n => ?_, fun w1 u sc hg hu hat => ?_⟩
  · refine ⟨h1.1, ?_⟩
    rcases h1.2 with q | ⟨g5, cap5, cur5, q, hq, r⟩
    · exact .inl q
    · exact .inr ⟨g5, cap5, cur5, q, hge g5 (by rw [q]; simp [obs, Value.ownBlock]), r⟩
  · have hfar : ∀ b, b ≠ gr → (w.setCell ⟨gr, i * 3 + 2, none⟩ (.int .i64 n)).heap[b]? = w.heap[b]? := fun b hb => Below.heap_setCell _ _ _ _ (by exact hb)
    exact ⟨_, _, by rw [List.length_set]; exact (row_at3 ho hil).2 (.int .i64 n), hput _ ⟨x.f0, x.f1, n⟩ _ (fun b hb => hfar b (hga b hb)) (own_move h1 (fun b hb => hfar b (hgv b (obs_mem.2 hb)))), hn, hge⟩
  · have hrow : ∀ b, b ∉ obs (Value.slice C x.f1.length d) → some b ≠ (Value.slice C x.f1.length d).ownBlock := fun b hb he => hb (obs_mem.2 he.symm)
    have ho1 := own_move (w1 := w1) ho (fun b hb => by rw [hgo b hb]; exact hg.block gr hg1 (hrow gr (fun q => hgv gr q rfl)))
    have huv : ∀ b, u.ownBlock = some b → b ∈ obs (Value.slice C x.f1.length d) ∨ w.heap.size ≤ b := fun b hb => by
      rcases hat with q | ⟨c, q, hc⟩
      · exact .inl (obs_mem.2 (q ▸ hb))
      · rw [q] at hb; cases hb; exact .inr hc
    have hug : ∀ b, b ∈ obs u → b ≠ gr := fun b hb he => by
      rcases huv b (obs_mem.1 hb) with q | q
      · exact hgv b q he
      · omega
    have hua : ∀ b, b ∈ fa ++ fb → b ∉ obs u := fun b hb hv => by
      have := hlt b (by rcases List.mem_append.1 hb with q | q <;> simp [q])
      rcases huv b (obs_mem.1 hv) with q | q
      · exact hva b hb q
      · omega
    have hfar : ∀ b, b ≠ gr → (w1.setCell ⟨gr, i * 3 + 1, none⟩ u).heap[b]? = w1.heap[b]? := fun b hb => Below.heap_setCell _ _ _ _ (by exact hb)
    obtain ⟨⟨_, q1, _⟩, qf, _⟩ := row_put3 ho1 hil
    refine ⟨q1, qf _, ?_⟩
    refine ⟨_, _, by rw [List.length_set]; exact row_at3m ho1 hil u, hput _ ⟨x.f0, sc, x.f2⟩ u (fun b hb => (hfar b (hga b hb)).trans (hg.block b (hlt b (by rcases List.mem_append.1 hb with q | q <;> simp [q])) (hrow b (hva b hb)))) (own_move hu (fun b hb => hfar b (hug b (obs_mem.2 hb)))), ?_, ?_⟩
    · rw [List.nodup_append]
      refine ⟨by simp [obs, Value.ownBlock], ?_, fun a ha b hb he => ?_⟩
      · rw [List.nodup_append]
        refine ⟨na, ?_, fun a ha b hb he => ?_⟩
        · rw [List.nodup_append]
          refine ⟨by unfold obs; cases u.ownBlock <;> simp, nb, fun a ha b hb he => ?_⟩
          subst he; exact hua a (List.mem_append_right _ hb) ha
        · subst he
          rcases List.mem_append.1 hb with q | q
          · exact hua a (List.mem_append_left _ ha) q
          · exact nd2 a ha a (List.mem_append_right _ q) rfl
      · subst he
        have hag := hgo a (obs_mem.1 ha)
        rcases List.mem_append.1 hb with q | q
        · exact hga a (List.mem_append_left _ q) hag
        · rcases List.mem_append.1 q with q | q
          · exact hug a q hag
          · exact hga a (List.mem_append_right _ q) hag
    · intro b hb
      rcases List.mem_append.1 hb with q | q
      · exact hge b (List.mem_append_left _ q)
      · rcases List.mem_append.1 q with q | q
        · exact hge b (by simp [q])
        · rcases List.mem_append.1 q with q | q
          · rcases huv b (obs_mem.1 q) with r | r
            · exact hge b (by simp [r])
            · omega
          · exact hge b (by simp [q])
/-- The same, where the cells are known. -/
theorem NewB.atC {B : Nat} {w : World} {l : List Bd} {gr n cap : Nat} (h : NewB B w l (.slice (some ⟨gr, 0, none⟩) n cap)) (hB : B ≤ w.heap.size) (i : Nat) (hi : i < l.length) {x : Bd} (hx : l[i] = x) {C : Option Addr} {d : Nat} (hc : w.cell? ⟨gr, i * 3 + 1, none⟩ = some (.slice C x.f1.length d)) : BdAtI B w l (.slice (some ⟨gr, 0, none⟩) n cap) i x gr C d := by
  obtain ⟨gr', cap', C', d', e, hat⟩ := h.atI hB i hi
  injection e with a1 a2 a3
  injection a1 with a1
  injection a1 with a1
  subst a1 a2 a3 hx
  have h1 := hat.c1.symm.trans hc
  injection h1 with h1
  injection h1 with b1 b2 b3
  subst b1 b3
  exact hat
end Go.Proofs.Ytcbomlmlindjdaa
end
section
namespace Go.Proofs.Ytcbomlmlindjdaa
open Go.RowKit Go.Proofs.YtcbomlmlindjdaaW.PrintWords Go.Proofs.YtcbomlmlindjdaaW.PrintLast Go.Proofs.YtcbomlmlindjdaaW.PrintMore
set_option linter.unusedVariables false
set_option linter.unusedSimpArgs false
section
open Go.Proofs.Ytcbomlmlindjdaa.Q
theorem f3_tot (x : Fm) : x.f3.length ≤ x.tot := by rw [Fm.tot_eq]; omega
theorem f1_tot (x : Fm) : x.f1.size ≤ x.tot := by rw [Fm.tot_eq]; omega
theorem smB_snoc {l : List Bd} (h : SmB l) (h1 : l.length ≤ 60) {b : Bd} (hb : b.f0.size ≤ 2000000 ∧ b.f1.length ≤ 2000000) : SmB (l ++ [b]) :=
  ⟨by simp; omega, fun c hc => by
    rcases List.mem_append.1 hc with h2 | h2
    · exact h.2 c h2
    · rw [List.mem_singleton.1 h2]; exact hb⟩
theorem ev_l3Copy {l : List Bd} (hl : SmB l) : Ev (fun k => spec_l3Copy.f k l) l := by
  have h0 := hl.1
  simp only [spec_l3Copy.f]
  obtain ⟨r, hp, hr⟩ := ev_loop (L := fun k (s : Int × List Bd) => spec_l3Copy.l0 k l s.2 s.1) (fun i s => s = ((i : Int), l.take i)) l.length (· = l) (by
    rintro i s hi rfl
    refine ⟨((i + 1 : Nat), l.take (i + 1)), rfl, fun r hr => ?_⟩
    have h2 := (hl.2 _ (List.getElem_mem hi)).2
    refine Ev.step (fun k => by rw [spec_l3Copy.l0]) ?_
    refine Ev.pos (by simpa using hi) ?_
    refine Ev.pos (by simp) ?_
    simp only
    rw [rdB hi]
    refine Ev.bind (g := fun _ => _) (Ev.some rfl) ?_
    refine Ev.pos (by simp; omega) ?_
    refine Ev.pos (by simp; omega) ?_
    rw [wr1 _ (by omega), List.nil_append, show (⟨l[i].f0, l[i].f1, l[i].f2⟩ : Bd) = l[i] from rfl, ← List.take_succ_eq_append_getElem hi]
    exact hr) (by
    rintro s rfl
    refine ⟨l, rfl, ?_⟩
    refine Ev.step (fun k => by rw [spec_l3Copy.l0]) ?_
    refine Ev.neg (by simp) ?_
    exact Ev.some (by simp)) (0, []) (by simp)
  subst hp
  exact hr
theorem ev_specAddBind {l : List Bd} (hl : SmB l) {x : Fm} (hx : x.tot ≤ 1048576) (id : Int) : Ev (fun k => spec_AddBind.f k l x.f0 x.f1 x.f2 x.f3 x.f4 id) (addBindR l x id) := by
  have h3 := f3_tot x
  have h1 := f1_tot x
  simp only [spec_AddBind.f]
  refine Ev.bind (ev_bindsValid hl) ?_
  unfold addBindR
  rw [isName_pair]
  rcases hv : pB (BdsOk l) with _ | _
  · refine Ev.neg (by simp) (Ev.step (fun k => by rw [spec_AddBind.j0]) ?_)
    exact Ev.pos rfl (Ev.now _)
  · have h60 := (bdsOk_iff.1 (pB_iff.1 hv)).1
    refine Ev.pos rfl (Ev.bind (g := fun _ => _) (Ev.some (ev_l3Is hx)) ?_)
    rcases pB (IsName x) with _ | _
    · refine Ev.step (fun k => by rw [spec_AddBind.j0]) ?_
      exact Ev.pos rfl (Ev.now _)
    · refine Ev.step (fun k => by rw [spec_AddBind.j0]) ?_
      refine Ev.neg (by simp) (Ev.bind (ev_l3Copy hl) (Ev.bind (g := fun _ => _) (Ev.some rfl) ?_))
      refine Ev.pos (by simp; omega) (Ev.pos (by omega) (Ev.bind (g := fun _ => _) (Ev.some rfl) ?_))
      rw [List.nil_append]
      refine Ev.bind (ev_bindsValid (smB_snoc hl h60 ⟨by show x.f1.size ≤ _; omega, by show x.f3.length ≤ _; omega⟩)) ?_
      rw [Bool.true_and, if_pos rfl]
      by_cases hb : pB (BdsOk (l ++ [⟨x.f1, x.f3, id⟩])) = true
      · refine Ev.pos hb ?_; rw [if_pos hb]; exact Ev.now _
      · refine Ev.neg hb ?_; rw [if_neg hb]; exact Ev.now _
end
/-- Out of the print's form of a row of one's own whose elements lie apart. -/
theorem bdl_ofS {w : World} {base : Nat} {ok : Nat → Prop} {f : Nat → Nat} : ∀ (l : List Bd) (j0 : Nat) (inner : List Value), inner.length = l.length * 3 → (∀ (j : Nat) (p : Bd × Nat), (l.zipIdx j0)[j]? = some p → (Kd.tag f kB).M w base ok p ((inner.drop (j * 3)).take 3)) → ∃ fp, BdL w l inner fp ∧ fp.Nodup ∧ ∀ b, b ∈ fp → base ≤ b ∧ ok b ∧ j0 ≤ f b
  | [], j0, inner, hl, _ => ⟨[], ⟨List.eq_nil_of_length_eq_zero (by simpa using hl), rfl⟩, List.nodup_nil, by simp⟩
  | b :: l, j0, inner, hl, h => by
    have h0 := h 0 (b, j0) (by simp [List.zipIdx_cons])
    obtain ⟨v1, e1, hR⟩ := Q.k36_openM (show kB.M w base (fun k => ok k ∧ f k = j0) b _ from h0)
    have ho := Kd.own_of_R hR
    obtain ⟨fp, a1, a2, a3⟩ := bdl_ofS l (j0 + 1) (inner.drop 3) (by simp [hl]; omega) (fun j p hj => by
      have := h (j + 1) p (by simpa [List.zipIdx_cons] using hj)
      rwa [show (j + 1) * 3 = 3 + j * 3 from by omega, ← List.drop_drop] at this)
    have hv : ∀ k, v1.ownBlock = some k → base ≤ k ∧ ok k ∧ f k = j0 := fun k hk => ⟨Kd.R_base hR k hk, (hR.1 k hk).1, (hR.1 k hk).2⟩
    refine ⟨obs v1 ++ fp, ⟨v1, inner.drop 3, fp, ?_, rfl, own_weaken ho (Nat.zero_le _), a1⟩, ?_, fun k hk => ?_⟩
    · have e3 : inner.take 3 = [.string b.f0, v1, .int .i64 b.f2] := by simpa using e1
      rw [← e3, List.take_append_drop]
    · rw [List.nodup_append]
      refine ⟨by unfold obs; cases v1.ownBlock <;> simp, a2, fun x hx y hy he => ?_⟩
      have h1 := (hv x (obs_mem.1 hx)).2.2
      have h2 := (a3 y hy).2.2
      subst he
      omega
    · rcases List.mem_append.1 hk with q | q
      · have := hv k (obs_mem.1 q)
        exact ⟨this.1, this.2.1, by omega⟩
      · have := a3 k q
        exact ⟨this.1, this.2.1, by omega⟩
theorem NewB.ofS {w : World} {base : Nat} {v : Value} {l : List Bd} (h : Kd.S kB 36 w base (fun _ => True) v l) : NewB base w l v := by
  obtain ⟨f, h0, inner, ho, hr⟩ := h
  rw [List.length_zipIdx] at ho
  have hl : inner.length = l.length * 3 := by have := hr.1; rw [List.length_zipIdx] at this; exact this
  obtain ⟨fp, a1, a2, a3⟩ := bdl_ofS l 0 inner hl (fun j p hj => hr.2 j p hj)
  refine ⟨inner, fp, own_weaken ho (Nat.zero_le _), a1, ?_, fun b hb => ?_⟩
  · rw [List.nodup_append]
    refine ⟨by unfold obs; cases v.ownBlock <;> simp, a2, fun x hx y hy he => ?_⟩
    subst he
    exact (a3 x hy).2.1.2 (obs_mem.1 hx).symm
  · rcases List.mem_append.1 hb with q | q
    · exact (by have := ho; rcases this with ⟨_, ⟨rfl, _⟩ | ⟨g, cap, cur, rfl, hg, _⟩⟩; (exact absurd (obs_mem.1 q) (by simp [Value.ownBlock])); (have h9 : g = b := by simpa [Value.ownBlock] using obs_mem.1 q); omega)
    · exact (a3 b q).1
theorem specAddB_any (l : List Bd) (A : Option Addr) (c : Nat) (x : Fm) (A3 : Option Addr) (c3 : Nat) (A4 : Option Addr) (c4 : Nat) (id : Int) (w : World) (hr : kB.C w A l.length l) (hc : l.length ≤ c) (hx : FmIn w x A3 c3 A4 c4) (hs : SmB l) (ht : x.tot ≤ 1048576) :
    Calls Try.prog 23 #[.slice A l.length c, .agg #[.int .i64 x.f0, .string x.f1, .int .i64 x.f2, .slice A3 x.f3.length c3, .slice A4 x.f4.length c4], .int .i64 id] w (fun e w' => ∃ v, e = .returned (.tuple #[v, .bool (addBindR l x id).2]) ∧ NewB w.heap.size w' (addBindR l x id).1 v ∧ Below w.heap.size w w') := by
  obtain ⟨k, hk⟩ := (ev_specAddBind hs ht id).rounds
  refine (Q.spec_AddBind.calls k A c l x.f0 x.f1 x.f2 A3 c3 x.f3 A4 c4 x.f4 id _ _ w hr hc hx.g3 hx.l3 hx.g4 hx.l4 hk).mono ?_
  rintro e w' ⟨v, rfl, hS, hb⟩
  exact ⟨v, rfl, NewB.ofS hS, hb⟩
end Go.Proofs.Ytcbomlmlindjdaa
end
section
namespace Go.Proofs.Ytcbomlmlindjdaa
open Go.RowKit Go.Proofs.YtcbomlmlindjdaaW.PrintWords Go.Proofs.YtcbomlmlindjdaaW.PrintLast Go.Proofs.YtcbomlmlindjdaaW.PrintMore
set_option linter.unusedVariables false
set_option linter.unusedSimpArgs false
/-- Behind the world w (two blocks O1, O2, then g3): the form's variable holds C. -/
structure Fr (w : World) (O1 O2 : Obj) (g3 : Nat) (C : Array Value) (W : World) : Prop where
  b : Below w.heap.size w W
  k1 : W.heap[w.heap.size]? = some O1
  k2 : W.heap[w.heap.size + 1]? = some O2
  k3 : W.heap[g3]? = some (.cells C 30 (0, 0))
  h3 : w.heap.size + 2 ≤ g3
theorem Fr.later {w W W1 : World} {O1 O2 : Obj} {g3 : Nat} {C : Array Value} (h : Fr w O1 O2 g3 C W) (hb : Below W.heap.size W W1) : Fr w O1 O2 g3 C W1 :=
  ⟨below_step h.b hb, blk_below h.k1 hb, blk_below h.k2 hb, blk_below h.k3 hb, h.h3⟩
theorem Fr.lt {w W : World} {O1 O2 : Obj} {g3 : Nat} {C : Array Value} (h : Fr w O1 O2 g3 C W) : w.heap.size + 2 ≤ W.heap.size ∧ g3 < W.heap.size := by
  have h1 := blk_lt h.k2
  have h2 := blk_lt h.k3
  omega
theorem Fr.grown {w W W1 : World} {O1 O2 : Obj} {g3 : Nat} {C : Array Value} {row : Option Nat} (h : Fr w O1 O2 g3 C W) (hg : W.grownBy W1 row) (hr : ∀ k, row = some k → w.heap.size + 2 ≤ k ∧ k ≠ g3) : Fr w O1 O2 g3 C W1 := by
  have hl := h.lt
  have hne : ∀ k, k < w.heap.size + 2 ∨ k = g3 → some k ≠ row := fun k hk he => by
    have := hr k he.symm
    omega
  refine ⟨⟨hg.os.trans h.b.os, hg.tape.trans h.b.tape, hg.output.trans h.b.output, Nat.le_trans h.b.size hg.size, fun k hk => (hg.block k (by omega) (hne k (by omega))).trans (h.b.block k hk)⟩, ?_, ?_, ?_, h.h3⟩
  · exact (hg.block _ (by omega) (hne _ (by omega))).trans h.k1
  · exact (hg.block _ (by omega) (hne _ (by omega))).trans h.k2
  · exact (hg.block _ (by omega) (hne _ (by omega))).trans h.k3
theorem Fr.put {w W : World} {O1 O2 : Obj} {g3 : Nat} {a b c d u : Value} (h : Fr w O1 O2 g3 #[a, b, c, d, u] W) (v : Value) : Fr w O1 O2 g3 #[a, b, c, d, v] (W.setCell ⟨g3, 4, none⟩ v) := by
  have h3 := h.h3
  refine ⟨below_set h.b (by show w.heap.size ≤ g3; omega), ?_, ?_, ?_, h3⟩
  · rw [Below.heap_setCell _ _ _ _ (by show w.heap.size ≠ g3; omega)]; exact h.k1
  · rw [Below.heap_setCell _ _ _ _ (by show w.heap.size + 1 ≠ g3; omega)]; exact h.k2
  · simpa using blk_set h.k3 4 v
/-- The rows of the form that is being built: its scopes, and what is done of its parts. -/
structure Cp (w : World) (O1 O2 : Obj) (g3 : Nat) (k : Int) (n : ByteArray) (m : Int) (sc : List Int) (done : List Fm) (v3 v : Value) (inner : List Value) (fp : List Nat) (W : World) : Prop where
  fr : Fr w O1 O2 g3 #[.int .i64 k, .string n, .int .i64 m, v3, v] W
  o3 : W.ownsRow 0 3 1 v3 sc.length (encI sc)
  o4 : W.ownsRow 0 30 5 v done.length inner
  tr : TrL W done inner fp
  nd : (obs v3 ++ (obs v ++ fp)).Nodup
  ge : ∀ b, b ∈ obs v3 ++ (obs v ++ fp) → w.heap.size + 2 ≤ b ∧ b ≠ g3
section
variable {w W W1 : World} {O1 O2 : Obj} {g3 : Nat} {k m : Int} {n : ByteArray} {sc : List Int} {done : List Fm} {v3 v : Value} {inner : List Value} {fp : List Nat}
theorem Cp.lt (h : Cp w O1 O2 g3 k n m sc done v3 v inner fp W) : ∀ b, b ∈ obs v3 ++ (obs v ++ fp) → b < W.heap.size := by
  intro b hb
  rcases List.mem_append.1 hb with hb | hb
  · exact own_lt h.o3 b (obs_mem.1 hb)
  rcases List.mem_append.1 hb with hb | hb
  · exact own_lt h.o4 b (obs_mem.1 hb)
  · exact h.tr.lt _ b hb
theorem Cp.later (h : Cp w O1 O2 g3 k n m sc done v3 v inner fp W) (hb : Below W.heap.size W W1) : Cp w O1 O2 g3 k n m sc done v3 v inner fp W1 := by
  have hl := h.lt
  refine ⟨h.fr.later hb, own_move h.o3 (fun b hb2 => hb.block b (hl b (by simp [obs_mem, hb2]))), own_move h.o4 (fun b hb2 => hb.block b (hl b (by simp [obs_mem, hb2]))), h.tr.later hb, h.nd, h.ge⟩
/-- Another part is done: behind the append, and the store into the variable. -/
theorem Cp.more (h : Cp w O1 O2 g3 k n m sc done v3 v inner fp W) {B : Nat} {y : Fm} {u3 u4 : Value} (hB : ∀ b, b ∈ obs v3 ++ (obs v ++ fp) → b < B) (hg3 : g3 < B) (hB2 : w.heap.size + 2 ≤ B) (hn : NewF B W y u3 u4)
    {v' : Value} (ho : W1.ownsRow 0 30 5 v' (done.length + 1) (inner ++ [.int .i64 y.f0, .string y.f1, .int .i64 y.f2, u3, u4])) (hg : W.grownBy W1 v.ownBlock) (hat : v'.ownBlock = v.ownBlock ∨ ∃ b, v'.ownBlock = some b ∧ W.heap.size ≤ b) :
    ∃ fp', Cp w O1 O2 g3 k n m sc (done ++ [y]) v3 v' (inner ++ [.int .i64 y.f0, .string y.f1, .int .i64 y.f2, u3, u4]) fp' (W1.setCell ⟨g3, 4, none⟩ v') := by
  obtain ⟨fk, ht, hnd, hge⟩ := hn
  have hl := h.lt
  have hnd0 := h.nd
  have hge0 := h.ge
  simp only [List.nodup_append, List.mem_append] at hnd0 hge0 hl hB
  obtain ⟨n3, ⟨n4, n5, n45⟩, n345⟩ := hnd0
  have htl := ht.lt y
  have hlt1 : ∀ b, b ∈ obs v' → b < W1.heap.size := fun b hb => own_lt ho b (obs_mem.1 hb)
  have hobs : ∀ b, b ∈ obs v' → b ∈ obs v ∨ W.heap.size ≤ b := by
    intro b hb
    rcases hat with e | ⟨c, e, hc⟩
    · exact .inl (obs_mem.2 (e ▸ obs_mem.1 hb))
    · have := obs_mem.1 hb
      rw [e] at this
      cases this
      exact .inr hc
  have hnv : ∀ b, b ∈ obs v3 ∨ b ∈ fp ∨ b ∈ fk → some b ≠ v.ownBlock := by
    intro b hb he
    have hbv : b ∈ obs v := obs_mem.2 he.symm
    rcases hb with hb | hb | hb
    · exact n345 b hb b (.inl hbv) rfl
    · exact n45 b hbv b hb rfl
    · have := hB b (.inr (.inl hbv))
      have := hge b hb
      omega
  have hmv : ∀ b, b ∈ obs v3 ∨ b ∈ fp ∨ b ∈ fk → (W1.setCell ⟨g3, 4, none⟩ v').heap[b]? = W.heap[b]? := by
    intro b hb
    have hb2 : b < W.heap.size ∧ b ≠ g3 := by
      rcases hb with hb | hb | hb
      · exact ⟨hl b (.inl hb), (hge0 b (.inl hb)).2⟩
      · exact ⟨hl b (.inr (.inr hb)), (hge0 b (.inr (.inr hb))).2⟩
      · have := hge b hb
        exact ⟨htl b hb, by omega⟩
    rw [Below.heap_setCell _ _ _ _ (by show b ≠ g3; exact hb2.2)]
    exact hg.block b hb2.1 (hnv b hb)
  have hv'3 : ∀ b, b ∈ obs v' → b ≠ g3 := by
    intro b hb he
    have hl3 := h.fr.lt
    rcases hobs b hb with h1 | h1
    · exact (hge0 b (.inr (.inl h1))).2 he
    · omega
  have hrow := h.fr.grown hg (fun c hc => hge0 c (.inr (.inl (obs_mem.2 hc))))
  refine ⟨fp ++ fk, hrow.put v', ?_, ?_, ?_, ?_, ?_⟩
  · exact own_move h.o3 (fun b hb => hmv b (.inl (obs_mem.2 hb)))
  · rw [List.length_append]
    exact own_move ho (fun b hb => Below.heap_setCell _ _ _ _ (by show b ≠ g3; exact hv'3 b (obs_mem.2 hb)))
  · exact (h.tr.move _ (fun b hb => hmv b (.inr (.inl hb)))).append (TrL.one (ht.move y (fun b hb => hmv b (.inr (.inr hb)))))
  · simp only [List.nodup_append, List.mem_append]
    refine ⟨n3, ⟨?_, ⟨n5, hnd, fun a ha b hb e => ?_⟩, fun a ha b hb e => ?_⟩, fun a ha b hb e => ?_⟩
    · unfold obs
      cases v'.ownBlock <;> simp
    · have := hB a (.inr (.inr ha)); have := hge b hb; omega
    · subst e
      rcases hobs a ha with h1 | h1
      · rcases hb with hb | hb
        · exact n45 a h1 a hb rfl
        · have := hB a (.inr (.inl h1)); have := hge a hb; omega
      · rcases hb with hb | hb
        · have := hl a (.inr (.inr hb)); omega
        · have := htl a hb; omega
    · subst e
      rcases hb with hb | hb | hb
      · rcases hobs a hb with h1 | h1
        · exact n345 a ha a (.inl h1) rfl
        · have := hl a (.inl ha); omega
      · exact n345 a ha a (.inr hb) rfl
      · have := hB a (.inl ha); have := hge a hb; omega
  · simp only [List.mem_append]
    intro b hb
    have hl3 := h.fr.lt
    rcases hb with hb | hb | hb | hb
    · exact hge0 b (.inl hb)
    · rcases hobs b hb with h1 | h1
      · exact hge0 b (.inr (.inl h1))
      · exact ⟨by omega, by omega⟩
    · exact hge0 b (.inr (.inr hb))
    · have := hge b hb
      exact ⟨by omega, by omega⟩
/-- All parts are done. -/
theorem Cp.newF (h : Cp w O1 O2 g3 k n m sc done v3 v inner fp W) (hW : ∀ b, b ≠ w.heap.size + 1 → W1.heap[b]? = W.heap[b]?) : NewF w.heap.size W1 ⟨k, n, m, sc, done⟩ v3 v := by
  have hge := h.ge
  refine ⟨_, .mk ⟨k, n, m, sc, done⟩ v3 v inner fp (own_move h.o3 (fun b hb => hW b ?_)) (own_move h.o4 (fun b hb => hW b ?_)) (h.tr.move _ (fun b hb => hW b ?_)), h.nd, fun b hb => ?_⟩
  · have := hge b (by simp [obs_mem, hb]); omega
  · have := hge b (by simp [obs_mem, hb]); omega
  · have := hge b (by simp [hb]); omega
  · have := hge b hb; omega
end
theorem st5 {W : World} {g : Nat} {t : TypeId} {a0 a1 a2 a3 a4 : Value} (h : W.heap[g]? = some (.cells #[a0, a1, a2, a3, a4] t (0, 0))) (b0 b1 b2 b3 b4 : Value) :
    (((((W.setCell ⟨g, 0, none⟩ b0).setCell ⟨g, 1, none⟩ b1).setCell ⟨g, 2, none⟩ b2).setCell ⟨g, 3, none⟩ b3).setCell ⟨g, 4, none⟩ b4).heap[g]? = some (.cells #[b0, b1, b2, b3, b4] t (0, 0)) ∧
    (∀ k, k ≠ g → (((((W.setCell ⟨g, 0, none⟩ b0).setCell ⟨g, 1, none⟩ b1).setCell ⟨g, 2, none⟩ b2).setCell ⟨g, 3, none⟩ b3).setCell ⟨g, 4, none⟩ b4).heap[k]? = W.heap[k]?) ∧
    (∀ (B : Nat) (a : World), Below B a W → B ≤ g → Below B a (((((W.setCell ⟨g, 0, none⟩ b0).setCell ⟨g, 1, none⟩ b1).setCell ⟨g, 2, none⟩ b2).setCell ⟨g, 3, none⟩ b3).setCell ⟨g, 4, none⟩ b4)) := by
  refine ⟨?_, fun k hk => ?_, fun B a h hg => ?_⟩
  · have s0 := blk_set h 0 b0
    have s1 := blk_set s0 1 b1
    have s2 := blk_set s1 2 b2
    have s3 := blk_set s2 3 b3
    have s4 := blk_set s3 4 b4
    simpa using s4
  · rw [Below.heap_setCell _ _ _ _ (by exact hk), Below.heap_setCell _ _ _ _ (by exact hk), Below.heap_setCell _ _ _ _ (by exact hk), Below.heap_setCell _ _ _ _ (by exact hk), Below.heap_setCell _ _ _ _ (by exact hk)]
  · exact ((((h.setCell (p := ⟨g, _, none⟩) hg _).setCell (p := ⟨g, _, none⟩) hg _).setCell (p := ⟨g, _, none⟩) hg _).setCell (p := ⟨g, _, none⟩) hg _).setCell (p := ⟨g, _, none⟩) hg _
/-- The form's variable is laid: no part is done yet. -/
theorem Cp.start {w w5 wz W : World} {O1 O2 : Obj} {g3 : Nat} {k m : Int} {n : ByteArray} {sc : List Int} {v3 : Value} {ok : Nat → Prop} (hk1 : w5.heap[w.heap.size]? = some O1) (hk2 : w5.heap[w.heap.size + 1]? = some O2) (hb0 : Below w.heap.size w w5) (hsz : w.heap.size + 2 ≤ w5.heap.size)
    (hbz : Below w5.heap.size w5 wz) (ho3 : kI.R 3 wz w5.heap.size ok v3 sc) (hg3 : w5.heap.size ≤ g3) (hne : some g3 ≠ v3.ownBlock) (hW : W.heap[g3]? = some (.cells #[.int .i64 k, .string n, .int .i64 m, v3, .slice none 0 0] 30 (0, 0)))
    (hWo : ∀ b, b ≠ g3 → W.heap[b]? = wz.heap[b]?) (hWb : Below w5.heap.size w5 W) : Cp w O1 O2 g3 k n m sc [] v3 (.slice none 0 0) [] [] W := by
  have h1 := blk_lt hk2
  have hb := Kd.R_base ho3
  refine ⟨⟨hb0.trans (hWb.mono hb0.size), blk_below hk1 hWb, blk_below hk2 hWb, hW, by omega⟩, own_move (own_weaken (Kd.own_of_R ho3) (Nat.zero_le _)) (fun b hb2 => hWo b (fun e => hne (by rw [← e, hb2]))), by simp [World.ownsRow], .nil, ?_, fun b hb2 => ?_⟩
  · rw [show obs v3 ++ (obs (Value.slice none 0 0) ++ []) = obs v3 from by simp [obs, Value.ownBlock]]
    unfold obs
    cases v3.ownBlock <;> simp
  · have hb3 : b ∈ obs v3 := by simpa [obs, Value.ownBlock] using hb2
    have := hb b (obs_mem.1 hb3)
    exact ⟨by omega, fun e => hne (by rw [← e, obs_mem.1 hb3])⟩
end Go.Proofs.Ytcbomlmlindjdaa
end
section
namespace Go.Proofs.Ytcbomlmlindjdaa
open Go.RowKit Go.Proofs.YtcbomlmlindjdaaW.PrintWords Go.Proofs.YtcbomlmlindjdaaW.PrintLast Go.Proofs.YtcbomlmlindjdaaW.PrintMore
set_option linter.unusedVariables false
set_option linter.unusedSimpArgs false
abbrev IsRd := @Q.IsS78
/-- From w to W: the source in block g stands at q; no other block of w has changed. -/
structure Dr (w0 w : World) (g : Nat) (s : List Int) (q : Int) (W : World) : Prop where
  is : IsRd w0 W g s q
  b : Below w0.heap.size w0 W
  kp : KeepBut w W g none
  lt : g < w.heap.size
section
variable {w0 w W W1 : World} {g : Nat} {s : List Int} {q q' : Int}
theorem Dr.new (hi : IsRd w0 w g s q) (hb : Below w0.heap.size w0 w) : Dr w0 w g s q w := ⟨hi, hb, KeepBut.refl _ _ _, Q.IsS78.lt hi⟩
theorem Dr.size (h : Dr w0 w g s q W) : w.heap.size ≤ W.heap.size := keep_size h.kp
theorem Dr.later (h : Dr w0 w g s q W) (hb : Below W.heap.size W W1) : Dr w0 w g s q W1 := ⟨Q.IsS78.below h.is hb, below_step h.b hb, h.kp.trans (KeepBut.of_below hb g none) (.inl rfl), h.lt⟩
theorem Dr.call (h : Dr w0 w g s q W) (h1 : IsRd w0 W1 g s q') (h2 : Below w0.heap.size w0 W1) (h3 : KeepBut W W1 g none) : Dr w0 w g s q' W1 := ⟨h1, h2, h.kp.trans h3 (.inl rfl), h.lt⟩
theorem Dr.put (h : Dr w0 w g s q W) {b j : Nat} (hb : w.heap.size ≤ b) (u : Value) : Dr w0 w g s q (W.setCell ⟨b, j, none⟩ u) := by
  have := h.lt
  have hge := Q.IsS78.ge h.is
  exact ⟨Q.IsS78.far h.is (by show g ≠ b; omega) u, below_set h.b (by show w0.heap.size ≤ b; omega), keep_far h.kp (by exact hb) u, h.lt⟩
theorem Dr.grown {row : Option Nat} (h : Dr w0 w g s q W) (hg : W.grownBy W1 row) (hr : ∀ k, row = some k → w.heap.size ≤ k) : Dr w0 w g s q W1 := by
  have hl := h.lt
  have hge := Q.IsS78.ge h.is
  have hs := h.size
  have hne : ∀ k, k < w.heap.size → some k ≠ row := fun k hk he => by
    have := hr k he.symm
    omega
  refine ⟨Q.IsS78.grown h.is hg (hne g hl), ⟨hg.os.trans h.b.os, hg.tape.trans h.b.tape, hg.output.trans h.b.output, Nat.le_trans h.b.size hg.size, fun k hk => (hg.block k (by have := h.b.size; omega) (hne k (by omega))).trans (h.b.block k hk)⟩, ⟨Nat.le_trans hs hg.size, fun i hi h1 h2 => (hg.block i (by omega) (hne i hi)).trans (h.kp.2 i hi h1 h2)⟩, hl⟩
end
structure Dp (w0 w : World) (g : Nat) (s : List Int) (q : Int) (O1 O2 : Obj) (g3 : Nat) (k : Int) (n : ByteArray) (m : Int) (sc : List Int) (ks : List Fm) (v3 v : Value) (inner : List Value) (fp : List Nat) (W : World) : Prop where
  dr : Dr w0 w g s q W
  k1 : W.heap[w.heap.size]? = some O1
  k2 : W.heap[w.heap.size + 1]? = some O2
  k3 : W.heap[g3]? = some (.cells #[.int .i64 k, .string n, .int .i64 m, v3, v] 30 (0, 0))
  h3 : w.heap.size + 2 ≤ g3
  o3 : W.ownsRow 0 3 1 v3 sc.length (encI sc)
  o4 : W.ownsRow 0 30 5 v ks.length inner
  tr : TrL W ks inner fp
  nd : (obs v3 ++ (obs v ++ fp)).Nodup
  ge : ∀ b, b ∈ obs v3 ++ (obs v ++ fp) → w.heap.size + 2 ≤ b ∧ b ≠ g3
section
variable {w0 w W W1 : World} {g : Nat} {s : List Int} {q q' : Int} {O1 O2 : Obj} {g3 : Nat} {k m : Int} {n : ByteArray} {sc : List Int} {ks : List Fm} {v3 v : Value} {inner : List Value} {fp : List Nat}
theorem Dp.lt (h : Dp w0 w g s q O1 O2 g3 k n m sc ks v3 v inner fp W) : ∀ b, b ∈ obs v3 ++ (obs v ++ fp) → b < W.heap.size := by
  intro b hb
  rcases List.mem_append.1 hb with hb | hb
  · exact own_lt h.o3 b (obs_mem.1 hb)
  rcases List.mem_append.1 hb with hb | hb
  · exact own_lt h.o4 b (obs_mem.1 hb)
  · exact h.tr.lt _ b hb
theorem Dp.lts (h : Dp w0 w g s q O1 O2 g3 k n m sc ks v3 v inner fp W) : w.heap.size + 2 ≤ W.heap.size ∧ g3 < W.heap.size := by
  have h1 := blk_lt h.k2
  have h2 := blk_lt h.k3
  omega
/-- A world in which the source stands elsewhere, and the blocks from w on stand as_ they stood. -/
theorem Dp.move (h : Dp w0 w g s q O1 O2 g3 k n m sc ks v3 v inner fp W) (hd : Dr w0 w g s q' W1) (hm : ∀ b, w.heap.size ≤ b → b < W.heap.size → W1.heap[b]? = W.heap[b]?) : Dp w0 w g s q' O1 O2 g3 k n m sc ks v3 v inner fp W1 := by
  have hl := h.lt
  have hge := h.ge
  have hs := h.lts
  have h3 := h.h3
  have hmv : ∀ b, b ∈ obs v3 ++ (obs v ++ fp) → W1.heap[b]? = W.heap[b]? := fun b hb => hm b (by have := (hge b hb).1; omega) (hl b hb)
  exact ⟨hd, (hm _ (by omega) (by omega)).trans h.k1, (hm _ (by omega) (by omega)).trans h.k2, (hm _ (by omega) (by omega)).trans h.k3, h.h3,
    own_move h.o3 (fun b hb => hmv b (by simp [obs_mem, hb])), own_move h.o4 (fun b hb => hmv b (by simp [obs_mem, hb])), h.tr.move _ (fun b hb => hmv b (by simp [hb])), h.nd, h.ge⟩
theorem Dp.later (h : Dp w0 w g s q O1 O2 g3 k n m sc ks v3 v inner fp W) (hb : Below W.heap.size W W1) : Dp w0 w g s q O1 O2 g3 k n m sc ks v3 v inner fp W1 := h.move (h.dr.later hb) (fun b _ hlt => hb.block b hlt)
theorem Dp.call (h : Dp w0 w g s q O1 O2 g3 k n m sc ks v3 v inner fp W) (h1 : IsRd w0 W1 g s q') (h2 : Below w0.heap.size w0 W1) (h3 : KeepBut W W1 g none) : Dp w0 w g s q' O1 O2 g3 k n m sc ks v3 v inner fp W1 :=
  h.move (h.dr.call h1 h2 h3) (fun b hb hlt => h3.2 b hlt (by have := h.dr.lt; omega) (by simp))
/-- The form's own cells are written: kind, name, number. -/
theorem Dp.put {j : Nat} {u : Value} {k' m' : Int} {n' : ByteArray} (h : Dp w0 w g s q O1 O2 g3 k n m sc ks v3 v inner fp W) (hj : (W.setCell ⟨g3, j, none⟩ u).heap[g3]? = some (.cells #[.int .i64 k', .string n', .int .i64 m', v3, v] 30 (0, 0))) : Dp w0 w g s q O1 O2 g3 k' n' m' sc ks v3 v inner fp (W.setCell ⟨g3, j, none⟩ u) := by
  have hge := h.ge
  have h3 := h.h3
  have hmv : ∀ b, b ≠ g3 → (W.setCell ⟨g3, j, none⟩ u).heap[b]? = W.heap[b]? := fun b hb => Below.heap_setCell _ _ _ _ (by exact hb)
  exact ⟨h.dr.put (by omega) u, (hmv _ (by omega)).trans h.k1, (hmv _ (by omega)).trans h.k2, hj, h3,
    own_move h.o3 (fun b hb => hmv b (hge b (by simp [obs_mem, hb])).2), own_move h.o4 (fun b hb => hmv b (hge b (by simp [obs_mem, hb])).2), h.tr.move _ (fun b hb => hmv b (hge b (by simp [hb])).2), h.nd, h.ge⟩
/-- The form gets other scopes: a row that is none of its parts'. -/
theorem Dp.scopes {u : Value} {sc' : List Int} {row : Option Nat} (h : Dp w0 w g s q O1 O2 g3 k n m sc ks v3 v inner fp W) (hg : W.grownBy W1 row) (hrow : ∀ b, row = some b → w.heap.size + 2 ≤ b ∧ b ≠ g3 ∧ b ∉ obs v ∧ b ∉ fp) (ho : W1.ownsRow 0 3 1 u sc'.length (encI sc')) (hu : ∀ b, u.ownBlock = some b → w.heap.size + 2 ≤ b ∧ b ≠ g3 ∧ b ∉ obs v ∧ b ∉ fp) :
    Dp w0 w g s q O1 O2 g3 k n m sc' ks u v inner fp (W1.setCell ⟨g3, 3, none⟩ u) := by
  have hl := h.lt
  have hls := h.lts
  have hge := h.ge
  have h3 := h.h3
  have hnd := h.nd
  simp only [List.nodup_append, List.mem_append] at hnd hge hl
  obtain ⟨n3, ⟨n4, n5, n45⟩, n345⟩ := hnd
  have hne : ∀ b, b < w.heap.size + 2 ∨ b = g3 ∨ b ∈ obs v ∨ b ∈ fp → some b ≠ row := by
    intro b hb he
    obtain ⟨r1, r2, r3, r4⟩ := hrow b he.symm
    rcases hb with hb | hb | hb | hb
    · omega
    · exact r2 hb
    · exact r3 hb
    · exact r4 hb
  have hmv : ∀ b, b < w.heap.size + 2 ∨ b ∈ obs v ∨ b ∈ fp → (W1.setCell ⟨g3, 3, none⟩ u).heap[b]? = W.heap[b]? := by
    intro b hb
    have hb2 : b < W.heap.size ∧ b ≠ g3 := by
      rcases hb with hb | hb | hb
      · exact ⟨by omega, by omega⟩
      · exact ⟨hl b (.inr (.inl hb)), (hge b (.inr (.inl hb))).2⟩
      · exact ⟨hl b (.inr (.inr hb)), (hge b (.inr (.inr hb))).2⟩
    rw [Below.heap_setCell _ _ _ _ (by exact hb2.2)]
    exact hg.block b hb2.1 (hne b (by rcases hb with hb | hb | hb <;> simp [hb]))
  refine ⟨(h.dr.grown hg (fun c hc => by have := (hrow c hc).1; omega)).put (by omega) u, (hmv _ (.inl (by omega))).trans h.k1, (hmv _ (.inl (by omega))).trans h.k2, ?_, h3, own_move ho (fun b hb => Below.heap_setCell _ _ _ _ (by exact (hu b hb).2.1)), own_move h.o4 (fun b hb => hmv b (.inr (.inl (obs_mem.2 hb)))), h.tr.move _ (fun b hb => hmv b (.inr (.inr hb))), ?_, ?_⟩
  · have := (hg.block g3 hls.2 (hne g3 (.inr (.inl rfl)))).trans h.k3
    simpa using blk_set this 3 u
  · simp only [List.nodup_append, List.mem_append]
    refine ⟨?_, ⟨n4, n5, n45⟩, fun a ha b hb e => ?_⟩
    · unfold obs
      cases u.ownBlock <;> simp
    · subst e
      have := hu a (obs_mem.1 ha)
      rcases hb with hb | hb
      · exact this.2.2.1 hb
      · exact this.2.2.2 hb
  · simp only [List.mem_append]
    intro b hb
    rcases hb with hb | hb | hb
    · have := hu b (obs_mem.1 hb); exact ⟨this.1, this.2.1⟩
    · exact hge b (.inr (.inl hb))
    · exact hge b (.inr (.inr hb))
/-- The form's own row of scopes is apart from its parts. -/
theorem Dp.own3 (h : Dp w0 w g s q O1 O2 g3 k n m sc ks v3 v inner fp W) : ∀ b, v3.ownBlock = some b → w.heap.size + 2 ≤ b ∧ b ≠ g3 ∧ b ∉ obs v ∧ b ∉ fp := by
  intro b hb
  have hge := h.ge b (by simp [obs_mem, hb])
  have hnd := h.nd
  simp only [List.nodup_append, List.mem_append] at hnd
  have hb3 : b ∈ obs v3 := obs_mem.2 hb
  exact ⟨hge.1, hge.2, fun hm => hnd.2.2 b hb3 b (.inl hm) rfl, fun hm => hnd.2.2 b hb3 b (.inr hm) rfl⟩
/-- A new block is none of the form's. -/
theorem Dp.fresh (h : Dp w0 w g s q O1 O2 g3 k n m sc ks v3 v inner fp W) {b : Nat} (hb : W.heap.size ≤ b) : w.heap.size + 2 ≤ b ∧ b ≠ g3 ∧ b ∉ obs v ∧ b ∉ fp := by
  have hl := h.lt
  have hls := h.lts
  refine ⟨by omega, by omega, fun hm => ?_, fun hm => ?_⟩
  · have := hl b (by simp [hm]); omega
  · have := hl b (by simp [hm]); omega
/-- One part of the form gives way to a form in new memory. -/
theorem Dp.kid {B : Nat} {y : Fm} {u3 u4 : Value} {gr cap : Nat} {a b : List Fm} {x : Fm} {ia ib : List Value} {z3 z4 : Value} {fa fx fb : List Nat}
    {N : Nat} (hN : N = ks.length) (h : Dp w0 w g s q O1 O2 g3 k n m sc ks v3 (.slice (some ⟨gr, 0, none⟩) N cap) inner fp W) (hks : ks = a ++ x :: b) (hin : inner = ia ++ ([.int .i64 x.f0, .string x.f1, .int .i64 x.f2, z3, z4] ++ ib)) (hfp : fp = fa ++ (fx ++ fb)) (ha : TrL W a ia fa) (hb : TrL W b ib fb)
    (hB : ∀ c, c ∈ obs v3 ++ (obs (.slice (some ⟨gr, 0, none⟩) N cap) ++ fp) → c < B) (hB3 : g3 < B) (hB2 : w.heap.size + 2 ≤ B) (hn : NewF B W y u3 u4) :
    ∃ fp', Dp w0 w g s q O1 O2 g3 k n m sc (a ++ y :: b) v3 (.slice (some ⟨gr, 0, none⟩) N cap) (ia ++ ([.int .i64 y.f0, .string y.f1, .int .i64 y.f2, u3, u4] ++ ib)) fp' (set5 W gr (a.length * 5) (.int .i64 y.f0) (.string y.f1) (.int .i64 y.f2) u3 u4) := by
  obtain ⟨fk, ht, hknd, hkge⟩ := hn
  have hl := h.lt
  have hls := h.lts
  have hge := h.ge
  have h3 := h.h3
  have hnd := h.nd
  have htl := ht.lt y
  subst hN hks hin hfp
  have hlen := ha.len
  obtain ⟨_, _, hput⟩ := row_put h.o4 hlen
  have hgr : gr ∈ obs (Value.slice (some ⟨gr, 0, none⟩) (a ++ x :: b).length cap) := by simp [obs, Value.ownBlock]
  have hob : ∀ c, c ∈ obs (Value.slice (some ⟨gr, 0, none⟩) (a ++ x :: b).length cap) → c = gr := by intro c hc; simpa [obs, Value.ownBlock] using hc
  simp only [List.nodup_append, List.mem_append] at hnd hge hl hB
  obtain ⟨n3, ⟨n4, ⟨na, ⟨nx, nb, nxb⟩, naxb⟩, n45⟩, n345⟩ := hnd
  have hgr3 := (hge gr (.inr (.inl hgr))).2
  have hmv : ∀ c, c ≠ gr → (set5 W gr (a.length * 5) (.int .i64 y.f0) (.string y.f1) (.int .i64 y.f2) u3 u4).heap[c]? = W.heap[c]? := fun c hc => set5_far _ _ _ _ _ _ _ _ c hc
  have hgw := (hge gr (.inr (.inl hgr))).1
  refine ⟨fa ++ (fk ++ fb), ((((h.dr.put (by omega) _).put (by omega) _).put (by omega) _).put (by omega) _).put (by omega) _, (hmv _ (by omega)).trans h.k1, (hmv _ (by omega)).trans h.k2, (hmv _ (by omega)).trans h.k3, h3, own_move h.o3 (fun c hc => hmv c (fun e => n345 c (obs_mem.2 hc) gr (.inl hgr) e)), ?_, ?_, ?_, ?_⟩
  · have := hput (.int .i64 y.f0) (.string y.f1) (.int .i64 y.f2) u3 u4
    simpa using this
  · refine (ha.move _ (fun c hc => hmv c (fun e => n45 gr hgr c (.inl hc) e.symm))).append ?_
    refine .cons y b u3 u4 ib fk fb (ht.move y (fun c hc => hmv c (fun e => ?_))) (hb.move _ (fun c hc => hmv c (fun e => n45 gr hgr c (.inr (.inr hc)) e.symm)))
    have h1 := hkge c hc
    have h2 := hB gr (.inr (.inl hgr))
    omega
  · simp only [List.nodup_append, List.mem_append]
    refine ⟨n3, ⟨n4, ⟨na, ⟨hknd, nb, fun c hc d hd e => ?_⟩, fun c hc d hd e => ?_⟩, fun c hc d hd e => ?_⟩, fun c hc d hd e => ?_⟩
    · have := hkge c hc; have := hB d (.inr (.inr (.inr (.inr hd)))); omega
    · rcases hd with hd | hd
      · have := hkge d hd; have := hB c (.inr (.inr (.inl hc))); omega
      · exact naxb c hc d (.inr hd) e
    · rcases hd with hd | hd | hd
      · exact n45 c hc d (.inl hd) e
      · have := hkge d hd; have := hB c (.inr (.inl hc)); omega
      · exact n45 c hc d (.inr (.inr hd)) e
    · rcases hd with hd | hd | hd | hd
      · exact n345 c hc d (.inl hd) e
      · exact n345 c hc d (.inr (.inl hd)) e
      · have := hkge d hd; have := hB c (.inl hc); omega
      · exact n345 c hc d (.inr (.inr (.inr hd))) e
  · simp only [List.mem_append]
    intro c hc
    rcases hc with hc | hc | hc | hc | hc
    · exact hge c (.inl hc)
    · exact hge c (.inr (.inl hc))
    · exact hge c (.inr (.inr (.inl hc)))
    · have := hkge c hc; exact ⟨by omega, by omega⟩
    · exact hge c (.inr (.inr (.inr (.inr hc))))
theorem Dp.newF (h : Dp w0 w g s q O1 O2 g3 k n m sc ks v3 v inner fp W) (hW : ∀ b, b ≠ w.heap.size + 1 → W1.heap[b]? = W.heap[b]?) : NewF w.heap.size W1 ⟨k, n, m, sc, ks⟩ v3 v := by
  have hge := h.ge
  refine ⟨_, .mk ⟨k, n, m, sc, ks⟩ v3 v inner fp (own_move h.o3 (fun b hb => hW b ?_)) (own_move h.o4 (fun b hb => hW b ?_)) (h.tr.move _ (fun b hb => hW b ?_)), h.nd, fun b hb => ?_⟩
  · have := hge b (by simp [obs_mem, hb]); omega
  · have := hge b (by simp [obs_mem, hb]); omega
  · have := hge b (by simp [hb]); omega
  · have := hge b hb; omega
/-- The copy of a form is laid into its variable. -/
theorem Dp.start {w1 : World} {x : Fm} (hd : Dr w0 w g s q w1) (hk1 : w1.heap[w.heap.size]? = some O1) (hk2 : w1.heap[w.heap.size + 1]? = some O2) (hn : NewF (w.heap.size + 2) w1 x v3 v) : ∃ inner fp, Dp w0 w g s q O1 O2 w1.heap.size x.f0 x.f1 x.f2 x.f3 x.f4 v3 v inner fp (w1.alloc (.cells #[.int .i64 x.f0, .string x.f1, .int .i64 x.f2, v3, v] 30 (0, 0))) := by
  obtain ⟨fp, ht, hnd, hge⟩ := hn
  have hb := below_new w1 (.cells #[.int .i64 x.f0, .string x.f1, .int .i64 x.f2, v3, v] 30 (0, 0))
  have hlt := ht.lt x
  have h2 := blk_lt hk2
  obtain ⟨inner, fk, rfl, o3, o4, hk⟩ := ht.open
  refine ⟨inner, fk, hd.later hb, blk_below hk1 hb, blk_below hk2 hb, blk_new _ _, by omega, own_move o3 (fun b hb2 => hb.block b (hlt b (by simp [obs_mem, hb2]))), own_move o4 (fun b hb2 => hb.block b (hlt b (by simp [obs_mem, hb2]))), hk.later hb, hnd, fun b hb2 => ⟨hge b hb2, by have := hlt b hb2; omega⟩⟩
end
end Go.Proofs.Ytcbomlmlindjdaa
end
section
namespace Go.Proofs.Ytcbomlmlindjdaa
set_option linter.unusedVariables false
mutual
/-- A form without scopes. -/
def Fm.bare : Fm → Fm
  | ⟨a, b, c, _, ks⟩ => ⟨a, b, c, [], bareL ks⟩
def bareL : List Fm → List Fm
  | [] => []
  | k :: ks => k.bare :: bareL ks
end
end Go.Proofs.Ytcbomlmlindjdaa
end
section
namespace Go.Proofs.Ytcbomlmlindjdaa
open Go.RowKit Go.Proofs.YtcbomlmlindjdaaW.PrintWords Go.Proofs.YtcbomlmlindjdaaW.PrintLast Go.Proofs.YtcbomlmlindjdaaW.PrintMore
set_option linter.unusedVariables false
set_option linter.unusedSimpArgs false
theorem scTot (x : Fm) : x.f3.length ≤ x.tot := by
  have := x.tot_eq; omega
set_option maxHeartbeats 4000000 in
set_option maxRecDepth 100000 in
theorem l1Copy_any : ∀ x : Fm, ∀ (A3 : Option Addr) (c3 : Nat) (A4 : Option Addr) (c4 : Nat) (w : World), FmIn w x A3 c3 A4 c4 → x.tot ≤ 1000000000 →
    Calls Try.prog 68 #[.agg #[.int .i64 x.f0, .string x.f1, .int .i64 x.f2, .slice A3 x.f3.length c3, .slice A4 x.f4.length c4]] w (RetF w x) := by
  intro x
  induction x using Fm.ind with
  | h x ih =>
    intro A3 c3 A4 c4 w hin ht
    have hmax := hin.g4.2.1
    have HI := Lib.hid hin
    have HT := Lib.hid ht
    have IH := Lib.hid ih
    clear hin ht ih
    go_enter Try.func68, Try.ntmps68
    go_wp2_with fail
    obtain ⟨kb1, kb2, hb0⟩ := two_new (w := w) (O1 := (.cells #[.int .i64 x.f0, .string x.f1, .int .i64 x.f2, .slice A3 x.f3.length c3, .slice A4 x.f4.length c4] 30)) (O2 := (.cells #[.int .i64 0, .string ⟨#[]⟩, .int .i64 0, .slice none 0 0, .slice none 0 0] 30)) (Below.refl _ _).drew
    obtain ⟨p0, p1, p2, p3, p4⟩ := fm_cells kb1
    refine start_ (n := 13) (S := fun w' => w'.cell? ⟨w.heap.size, 0, none⟩ = some (.int .i64 x.f0) ∧ w'.cell? ⟨w.heap.size, 1, none⟩ = some (.string x.f1) ∧ w'.cell? ⟨w.heap.size, 2, none⟩ = some (.int .i64 x.f2) ∧ w'.cell? ⟨w.heap.size, 3, none⟩ = some (.slice A3 x.f3.length c3)) (ds := []) #[false, false, false, false, false, false, false, false, false, false, false, false, false] (by kernel_rfl) rfl rfl ⟨p0, p1, p2, p3⟩ (fun hHeld => ?_)
    have hsz : w.heap.size + 2 ≤ (((w.alloc (.cells #[.int .i64 x.f0, .string x.f1, .int .i64 x.f2, .slice A3 x.f3.length c3, .slice A4 x.f4.length c4] 30)).alloc (.cells #[.int .i64 0, .string ⟨#[]⟩, .int .i64 0, .slice none 0 0, .slice none 0 0] 30)).drew).heap.size := by simp
    generalize World.drew _ = w5 at kb1 kb2 hb0 hsz p0 p1 p2 p3 p4 hHeld ⊢
    have P0 := Lib.hid p0
    have P1 := Lib.hid p1
    have P2 := Lib.hid p2
    have P3 := Lib.hid p3
    have KB1 := Lib.hid kb1
    have KB2 := Lib.hid kb2
    have HB0 := Lib.hid hb0
    have HSZ := Lib.hid hsz
    clear p0 p1 p2 p3 p4 kb1 kb2 hb0 hsz
    refine pure_ (i := 0) (N := some 5) (v := ?_) (a' := ?_) #[true, false, false, false, false, false, false, false, false, false, false, false, false] rfl rfl (by kernel_rfl) (fun _ _ _ h => h) (Or.inl ⟨by rfl, ?_⟩) ?_ ?_
    rotate_left
    · intro w'
      go_simp
      with_reducible rfl
    rotate_left
    · simp only [Act.put, List.setIfInBounds_toArray, List.set_cons_zero, List.set_cons_succ, i64_w, i32_w]
      rfl
    refine pure_ (i := 2) (N := some 7) (v := ?_) (a' := ?_) #[true, false, true, false, false, false, false, false, false, false, false, false, false] rfl rfl (by kernel_rfl) (fun _ _ _ h => h) (Or.inl ⟨by rfl, ?_⟩) ?_ ?_
    rotate_left
    · intro w'
      go_simp
      with_reducible rfl
    rotate_left
    · simp only [Act.put, List.setIfInBounds_toArray, List.set_cons_zero, List.set_cons_succ, i64_w, i32_w]
      rfl
    refine pure_ (i := 4) (N := some 9) (v := ?_) (a' := ?_) #[true, false, true, false, true, false, false, false, false, false, false, false, false] rfl rfl (by kernel_rfl) (fun _ _ _ h => h) (Or.inl ⟨by rfl, ?_⟩) ?_ ?_
    rotate_left
    · intro w'
      go_simp
      with_reducible rfl
    rotate_left
    · simp only [Act.put, List.setIfInBounds_toArray, List.set_cons_zero, List.set_cons_succ, i64_w, i32_w]
      rfl
    refine pure_ (i := 7) (N := some 12) (v := ?_) (a' := ?_) #[true, false, true, false, true, false, false, true, false, false, false, false, false] rfl rfl (by kernel_rfl) (fun _ _ _ h => h) (Or.inl ⟨by rfl, ?_⟩) ?_ ?_
    rotate_left
    · intro w'
      go_simp
      with_reducible rfl
    rotate_left
    · simp only [Act.put, List.setIfInBounds_toArray, List.set_cons_zero, List.set_cons_succ, i64_w, i32_w]
      rfl
    refine take_ (i := 1) (N := some 6) (v := ?_) (a' := ?_) #[true, true, true, false, true, false, false, true, false, false, false, false, false] rfl rfl (by kernel_rfl) (fun _ _ _ h => h) (Or.inl ⟨by rfl, ?_⟩) hHeld ?_ ?_
    rotate_left
    · rintro w' ⟨s0, s1, s2, s3⟩
      go_simp
      with_reducible rfl
    rotate_left
    · simp only [Act.put, List.setIfInBounds_toArray, List.set_cons_zero, List.set_cons_succ, i64_w, i32_w]
      rfl
    refine take_ (i := 3) (N := some 8) (v := ?_) (a' := ?_) #[true, true, true, true, true, false, false, true, false, false, false, false, false] rfl rfl (by kernel_rfl) (fun _ _ _ h => h) (Or.inl ⟨by rfl, ?_⟩) hHeld ?_ ?_
    rotate_left
    · rintro w' ⟨s0, s1, s2, s3⟩
      go_simp
      with_reducible rfl
    rotate_left
    · simp only [Act.put, List.setIfInBounds_toArray, List.set_cons_zero, List.set_cons_succ, i64_w, i32_w]
      rfl
    refine take_ (i := 5) (N := some 10) (v := ?_) (a' := ?_) #[true, true, true, true, true, true, false, true, false, false, false, false, false] rfl rfl (by kernel_rfl) (fun _ _ _ h => h) (Or.inl ⟨by rfl, ?_⟩) hHeld ?_ ?_
    rotate_left
    · rintro w' ⟨s0, s1, s2, s3⟩
      go_simp
      with_reducible rfl
    rotate_left
    · simp only [Act.put, List.setIfInBounds_toArray, List.set_cons_zero, List.set_cons_succ, i64_w, i32_w]
      rfl
    refine take_ (i := 8) (N := some 13) (v := ?_) (a' := ?_) #[true, true, true, true, true, true, false, true, true, false, false, false, false] rfl rfl (by kernel_rfl) (fun _ _ _ h => h) (Or.inl ⟨by rfl, ?_⟩) hHeld ?_ ?_
    rotate_left
    · rintro w' ⟨s0, s1, s2, s3⟩
      go_simp
      with_reducible rfl
    rotate_left
    · simp only [Act.put, List.setIfInBounds_toArray, List.set_cons_zero, List.set_cons_succ, i64_w, i32_w]
      rfl
    refine join_ (σ := Value × Value × Nat) 1 #[true, true, true, true, true, true, true, true, true, true, true, true, false] (fun s_ => [(11, s_.1), (14, s_.2.1), (3, .pointer (some ⟨s_.2.2, 0, none⟩)), (15, .agg #[.int .i64 x.f0, .string x.f1, .int .i64 x.f2, s_.2.1, .slice none 0 0])]) (fun s_ w' => Below w5.heap.size w5 w' ∧ kI.R 3 w' w5.heap.size (fun _ => True) s_.2.1 x.f3 ∧ w'.heap[s_.2.2]? = some (.cells #[.int .i64 0, .string ⟨#[]⟩, .int .i64 0, .slice none 0 0, .slice none 0 0] 30) ∧ w5.heap.size ≤ s_.2.2) ?_ ?_
    rotate_left
    · intro hCont
      refine two_ (i := 6) (j := 11) (Ni := some 11) (Nj := some 3) #[true, true, true, true, true, true, true, true, true, false, false, false, false] #[true, true, true, true, true, true, false, true, true, false, false, true, false] rfl rfl rfl rfl (by kernel_rfl) (by decide) (by decide) (fun K hK => ?_) (fun K hK => ?_)
      · refine Kd.R_lit_step (Kd.int .i64) _ 3 ?hg (N := 11) ?hd (xs := ([] : List Int)) (inner := []) (ok := fun _ => True) (okp := fun _ => True) ?hr ?hp (fun _ hk => hk) trivial (Below.refl _ _) (Nat.le_refl _) (by simp) ?_; (case hd => rfl); (case hg => rfl); (case hr => first | (go_simp; done) | (go_simp; rfl)); (case hp => exact (Reps.none _ _))
        intro v0 w6 ho0 hb6 hg6 hn6
        clear hg6 hn6
        refine hK.out _ _ ⟨ck0 hb6 P0.out, ck0 hb6 P1.out, ck0 hb6 P2.out, ck0 hb6 P3.out⟩ (fun hHeld => ?_)
        clear hK K
        refine norm_ (a' := ?_) ?_ ?_
        rotate_left
        · show Act.put _ (some 11) _ = _
          simp only [Act.put, List.setIfInBounds_toArray, List.set_cons_zero, List.set_cons_succ, i64_w, i32_w]
          rfl
        refine two_ (i := 9) (j := 11) (Ni := some 14) (Nj := some 3) #[true, true, true, true, true, true, true, true, true, true, false, false, false] #[true, true, true, true, true, true, true, true, true, false, false, true, false] rfl rfl rfl rfl (by kernel_rfl) (by decide) (by decide) (fun K hK => ?_) (fun K hK => ?_)
        · refine Kd.R_append_rows_step (Kd.int .i64) (w0 := w5) w5.heap.size (by rfl) (.tmp 11) (.tmp 13) 27 3 (.int .i64 0) 8 rfl Try.underlying27 infoI rfl (by decide) (by omega) v0 [] x.f3 _ _ _ (fun _ => True) (fun _ => False) rfl rfl ho0 (Kd.C_below HI.out.g3 (below_step HB0.out hb6)) (fun _ _ h => h) (fun _ h => h.elim) (fun _ _ => trivial) hb6 hb6.size (by have := HT.out; have := scTot x; simp; omega) ?_
          intro v3 w7 ho3 hb7 hg7 hat7
          rw [List.nil_append] at ho3
          obtain ⟨D3, e3, rfl⟩ := Kd.R_slice ho3
          refine hK.out _ _ ⟨ck0 hb7 P0.out, ck0 hb7 P1.out, ck0 hb7 P2.out, ck0 hb7 P3.out⟩ (fun hHeld => ?_)
          clear hK K
          refine norm_ (a' := ?_) ?_ ?_
          rotate_left
          · show Act.put _ (some 14) _ = _
            simp only [Act.put, List.setIfInBounds_toArray, List.set_cons_zero, List.set_cons_succ, i64_w, i32_w]
            rfl
          refine pure_ (i := 10) (N := some 15) (v := ?_) (a' := ?_) #[true, true, true, true, true, true, true, true, true, true, true, false, false] rfl rfl (by kernel_rfl) (fun _ _ _ h => h) (Or.inl ⟨by rfl, ?_⟩) ?_ ?_
          rotate_left
          · intro w'
            go_simp
            with_reducible rfl
          rotate_left
          · simp only [Act.put, List.setIfInBounds_toArray, List.set_cons_zero, List.set_cons_succ, i64_w, i32_w]
            rfl
          refine one_ (i := 11) (N := some 3) #[true, true, true, true, true, true, true, true, true, true, true, true, false] rfl rfl (by kernel_rfl) (by decide) (fun K hK => ?_)
          refine box_step ?hg (N := 3) ?hd (cs := #[.int .i64 0, .string ⟨#[]⟩, .int .i64 0, .slice none 0 0, .slice none 0 0]) (t := 30) ?hr ?_; (case hd => rfl); (case hg => rfl); (case hr => first | (go_simp; done) | (go_simp; rfl))
          intro g3 hg w8 hbox hb8
          have hb9 := below_step hb7 hb8
          refine hK.out _ _ ⟨ck0 hb9 P0.out, ck0 hb9 P1.out, ck0 hb9 P2.out, ck0 hb9 P3.out⟩ (fun hHeld => ?_)
          clear hK K
          refine norm_ (a' := ?_) ?_ ?_
          rotate_left
          · show Act.put _ (some 3) _ = _
            simp only [Act.put, List.setIfInBounds_toArray, List.set_cons_zero, List.set_cons_succ, i64_w, i32_w]
            rfl
          exact norm_ (by simp only [putAll, Act.put, List.setIfInBounds_toArray, List.set_cons_zero, List.set_cons_succ]) (hCont (v0, .slice D3 x.f3.length e3, g3) _ ⟨hb9, Kd.R_below ho3 hb8, hbox, hg ▸ hb7.size⟩)
        · refine box_step ?hg (N := 3) ?hd (cs := #[.int .i64 0, .string ⟨#[]⟩, .int .i64 0, .slice none 0 0, .slice none 0 0]) (t := 30) ?hr ?_; (case hd => rfl); (case hg => rfl); (case hr => first | (go_simp; done) | (go_simp; rfl))
          intro g3 hg w7 hbox hb7
          have hb8 := below_step hb6 hb7
          have ho8 := Kd.R_below ho0 hb7
          have hne := Kd.R_ne ho8 hbox (by decide)
          refine hK.out _ _ ⟨ck0 hb8 P0.out, ck0 hb8 P1.out, ck0 hb8 P2.out, ck0 hb8 P3.out⟩ (fun hHeld => ?_)
          clear hK K
          refine norm_ (a' := ?_) ?_ ?_
          rotate_left
          · show Act.put _ (some 3) _ = _
            simp only [Act.put, List.setIfInBounds_toArray, List.set_cons_zero, List.set_cons_succ, i64_w, i32_w]
            rfl
          refine one_ (i := 9) (N := some 14) #[true, true, true, true, true, true, true, true, true, true, false, true, false] rfl rfl (by kernel_rfl) (by decide) (fun K hK => ?_)
          refine Kd.R_append_rows_step (Kd.int .i64) (w0 := w5) w5.heap.size (by rfl) (.tmp 11) (.tmp 13) 27 3 (.int .i64 0) 8 rfl Try.underlying27 infoI rfl (by decide) (by omega) v0 [] x.f3 _ _ _ (fun _ => True) (fun _ => False) rfl rfl ho8 (Kd.C_below HI.out.g3 (below_step HB0.out hb8)) (fun _ _ h => h) (fun _ h => h.elim) (fun _ _ => trivial) hb8 hb8.size (by have := HT.out; have := scTot x; simp; omega) ?_
          intro v3 w9 ho3 hb9 hg9 hat9
          rw [List.nil_append] at ho3
          obtain ⟨D3, e3, rfl⟩ := Kd.R_slice ho3
          refine hK.out _ _ ⟨ck0 hb9 P0.out, ck0 hb9 P1.out, ck0 hb9 P2.out, ck0 hb9 P3.out⟩ (fun hHeld => ?_)
          clear hK K
          refine norm_ (a' := ?_) ?_ ?_
          rotate_left
          · show Act.put _ (some 14) _ = _
            simp only [Act.put, List.setIfInBounds_toArray, List.set_cons_zero, List.set_cons_succ, i64_w, i32_w]
            rfl
          refine pure_ (i := 10) (N := some 15) (v := ?_) (a' := ?_) #[true, true, true, true, true, true, true, true, true, true, true, true, false] rfl rfl (by kernel_rfl) (fun _ _ _ h => h) (Or.inl ⟨by rfl, ?_⟩) ?_ ?_
          rotate_left
          · intro w'
            go_simp
            with_reducible rfl
          rotate_left
          · simp only [Act.put, List.setIfInBounds_toArray, List.set_cons_zero, List.set_cons_succ, i64_w, i32_w]
            rfl
          exact norm_ (by simp only [putAll, Act.put, List.setIfInBounds_toArray, List.set_cons_zero, List.set_cons_succ]) (hCont (v0, .slice D3 x.f3.length e3, g3) _ ⟨hb9, ho3, blk_grown hbox hg9 hne, hg ▸ hb6.size⟩)
      · refine box_step ?hg (N := 3) ?hd (cs := #[.int .i64 0, .string ⟨#[]⟩, .int .i64 0, .slice none 0 0, .slice none 0 0]) (t := 30) ?hr ?_; (case hd => rfl); (case hg => rfl); (case hr => first | (go_simp; done) | (go_simp; rfl))
        intro g3 hg w6 hbox hb6
        refine hK.out _ _ ⟨ck0 hb6 P0.out, ck0 hb6 P1.out, ck0 hb6 P2.out, ck0 hb6 P3.out⟩ (fun hHeld => ?_)
        clear hK K
        refine norm_ (a' := ?_) ?_ ?_
        rotate_left
        · show Act.put _ (some 3) _ = _
          simp only [Act.put, List.setIfInBounds_toArray, List.set_cons_zero, List.set_cons_succ, i64_w, i32_w]
          rfl
        refine one_ (i := 6) (N := some 11) #[true, true, true, true, true, true, true, true, true, false, false, true, false] rfl rfl (by kernel_rfl) (by decide) (fun K hK => ?_)
        refine Kd.R_lit_step (Kd.int .i64) _ 3 ?hg (N := 11) ?hd (xs := ([] : List Int)) (inner := []) (ok := fun _ => True) (okp := fun _ => True) ?hr ?hp (fun _ hk => hk) trivial (Below.refl _ _) (Nat.le_refl _) (by simp) ?_; (case hd => rfl); (case hg => rfl); (case hr => first | (go_simp; done) | (go_simp; rfl)); (case hp => exact (Reps.none _ _))
        intro v0 w7 ho0 hb7 hg7 hn7
        have hbox7 := blk_below hbox hb7
        have hb8 := below_step hb6 hb7
        have ho8 := Kd.R_lower ho0 hb6.size
        have hne := Kd.R_ne ho0 hbox7 (by decide)
        refine hK.out _ _ ⟨ck0 hb8 P0.out, ck0 hb8 P1.out, ck0 hb8 P2.out, ck0 hb8 P3.out⟩ (fun hHeld => ?_)
        clear hK K
        refine norm_ (a' := ?_) ?_ ?_
        rotate_left
        · show Act.put _ (some 11) _ = _
          simp only [Act.put, List.setIfInBounds_toArray, List.set_cons_zero, List.set_cons_succ, i64_w, i32_w]
          rfl
        refine one_ (i := 9) (N := some 14) #[true, true, true, true, true, true, true, true, true, true, false, true, false] rfl rfl (by kernel_rfl) (by decide) (fun K hK => ?_)
        refine Kd.R_append_rows_step (Kd.int .i64) (w0 := w5) w5.heap.size (by rfl) (.tmp 11) (.tmp 13) 27 3 (.int .i64 0) 8 rfl Try.underlying27 infoI rfl (by decide) (by omega) v0 [] x.f3 _ _ _ (fun _ => True) (fun _ => False) rfl rfl ho8 (Kd.C_below HI.out.g3 (below_step HB0.out hb8)) (fun _ _ h => h) (fun _ h => h.elim) (fun _ _ => trivial) hb8 hb8.size (by have := HT.out; have := scTot x; simp; omega) ?_
        intro v3 w9 ho3 hb9 hg9 hat9
        rw [List.nil_append] at ho3
        obtain ⟨D3, e3, rfl⟩ := Kd.R_slice ho3
        refine hK.out _ _ ⟨ck0 hb9 P0.out, ck0 hb9 P1.out, ck0 hb9 P2.out, ck0 hb9 P3.out⟩ (fun hHeld => ?_)
        clear hK K
        refine norm_ (a' := ?_) ?_ ?_
        rotate_left
        · show Act.put _ (some 14) _ = _
          simp only [Act.put, List.setIfInBounds_toArray, List.set_cons_zero, List.set_cons_succ, i64_w, i32_w]
          rfl
        refine pure_ (i := 10) (N := some 15) (v := ?_) (a' := ?_) #[true, true, true, true, true, true, true, true, true, true, true, true, false] rfl rfl (by kernel_rfl) (fun _ _ _ h => h) (Or.inl ⟨by rfl, ?_⟩) ?_ ?_
        rotate_left
        · intro w'
          go_simp
          with_reducible rfl
        rotate_left
        · simp only [Act.put, List.setIfInBounds_toArray, List.set_cons_zero, List.set_cons_succ, i64_w, i32_w]
          rfl
        exact norm_ (by simp only [putAll, Act.put, List.setIfInBounds_toArray, List.set_cons_zero, List.set_cons_succ]) (hCont (v0, .slice D3 x.f3.length e3, g3) _ ⟨hb9, ho3, blk_grown hbox7 hg9 hne, Nat.le_of_eq hg.symm⟩)
    rintro ⟨v0, v3, g3⟩ wz ⟨hbz, ho3, hbox, hg3⟩
    dsimp only at ho3 hbox hg3
    have hHeld : True := trivial
    refine norm_ (a' := ?_) ?_ ?_
    rotate_left
    · simp only [putAll, Act.put, List.setIfInBounds_toArray, List.set_cons_zero, List.set_cons_succ]
      rfl
    have K1z := blk_below KB1.out hbz
    have hl1 := blk_lt KB1.out
    have hne3 := Kd.R_ne ho3 hbox (by decide)
    obtain ⟨D3, e3, rfl⟩ := Kd.R_slice ho3
    obtain ⟨st1, st2, st3⟩ := st5 hbox (.int .i64 x.f0) (.string x.f1) (.int .i64 x.f2) (.slice D3 x.f3.length e3) (.slice none 0 0)
    have hS5 := fm_cells ((st2 w.heap.size (by omega)).trans K1z)
    have HCP := Lib.hid (Cp.start (w := w) KB1.out KB2.out HB0.out HSZ.out hbz ho3 hg3 hne3 st1 st2 (st3 _ _ hbz hg3))
    obtain ⟨z0, z1, z2, z3, z4⟩ := fm_cells hbox
    obtain ⟨f0, f1, f2, f3, f4⟩ := fm_free hbox
    clear hbz ho3 hbox hg3 K1z hl1 hne3 st1 st2 st3 KB1 KB2 HB0 HSZ P0 P1 P2 P3
    refine one_ (i := 12) (N := none) #[true, true, true, true, true, true, true, true, true, true, true, true, true] rfl rfl (by kernel_rfl) (by decide) (fun K hK => ?_)
    refine skip_ (w1 := ?_) (by rfl) rfl ?_ ?_
    rotate_left
    · go_simp
      rfl
    refine hK.out _ _ ⟨hS5.1, hS5.2.1, hS5.2.2.1, hS5.2.2.2.1⟩ (fun hHeld => ?_)
    clear hK K z0 z1 z2 z3 z4 f0 f1 f2 f3 f4 hS5
    refine done_ (by kernel_rfl) ?_
    try go_wp2_with fail
    go_loopg [4] x.f4.length (fun kq v4 w' => ∃ i : Nat, i ≤ x.f4.length ∧ x.f4.length - i ≤ kq ∧ v4 = .int .i64 i ∧ Aside0 (∃ v inner fp, Cp w (.cells #[.int .i64 x.f0, .string x.f1, .int .i64 x.f2, .slice A3 x.f3.length c3, .slice A4 x.f4.length c4] 30) (.cells #[.int .i64 0, .string ⟨#[]⟩, .int .i64 0, .slice none 0 0, .slice none 0 0] 30) g3 x.f0 x.f1 x.f2 x.f3 (x.f4.take i) (.slice D3 x.f3.length e3) v inner fp w'))
    case atStart => exact ⟨0, Nat.zero_le _, by omega, rfl, ⟨⟨.slice none 0 0, [], [], by simpa using HCP.out⟩⟩⟩
    case round =>
      obtain ⟨i, hi, hg, rfl, HO⟩ := hrel
      by_cases hlt : i < x.f4.length
      · obtain ⟨v, inner, fp, hC⟩ := HO.out
        obtain ⟨p0, p1, p2, p3, p4⟩ := fm_cells hC.fr.k1
        obtain ⟨ad, G3, m3, G4, m4, e, g0, g1, g2, g3_, g4, hk⟩ := kid_at HI.out.g4 i hlt
        subst e
        have hkt := totL_mem (List.getElem_mem hlt)
        have hxt := HT.out
        rw [Fm.tot_eq] at hxt
        have r1 : (0 : Int) ≤ (i : Int) := by omega
        have r2 : (i : Int) < (x.f4.length : Int) := by omega
        have hlen := len_totL x.f4
        have HKT := Lib.hid (show x.f4[i].tot ≤ 1000000000 by omega)
        have HLN := Lib.hid (show x.f4.length ≤ 1000000000 by omega)
        have HK := Lib.hid hk
        have HC := Lib.hid hC
        have SK := Lib.hid (fun (W : World) (hf : Fr w (.cells #[.int .i64 x.f0, .string x.f1, .int .i64 x.f2, .slice A3 x.f3.length c3, .slice (some ad) x.f4.length c4] 30) (.cells #[.int .i64 0, .string ⟨#[]⟩, .int .i64 0, .slice none 0 0, .slice none 0 0] 30) g3 #[.int .i64 x.f0, .string x.f1, .int .i64 x.f2, (.slice D3 x.f3.length e3), v] W) => (⟨(fm_cells hf.k1).2.2.2.2, (fm_cells hf.k3).2.2.2.2, ck0 hf.b g0, ck0 hf.b g1, ck0 hf.b g2, ck0 hf.b g3_, ck0 hf.b g4⟩ : (fun w' => w'.cell? ⟨w.heap.size, 4, none⟩ = some (.slice (some ad) x.f4.length c4) ∧ w'.cell? ⟨g3, 4, none⟩ = some v ∧ w'.cell? (ad.add (i * 5)) = some (.int .i64 x.f4[i].f0) ∧ w'.cell? ⟨(ad.add (i * 5)).block, (ad.add (i * 5)).off + 1, none⟩ = some (.string x.f4[i].f1) ∧ w'.cell? ⟨(ad.add (i * 5)).block, (ad.add (i * 5)).off + 2, none⟩ = some (.int .i64 x.f4[i].f2) ∧ w'.cell? ⟨(ad.add (i * 5)).block, (ad.add (i * 5)).off + 3, none⟩ = some (.slice G3 x.f4[i].f3.length m3) ∧ w'.cell? ⟨(ad.add (i * 5)).block, (ad.add (i * 5)).off + 4, none⟩ = some (.slice G4 x.f4[i].f4.length m4)) W))
        clear hC hk p0 p1 p2 p3 hkt hxt hlen g0 g1 g2 g3_ g4
        go_wp2_with fail
        have HD := Lib.hid (HC.out.later (below_drew (Below.refl _ _)))
        refine start_ (n := 12) (S := fun w' => w'.cell? ⟨w.heap.size, 4, none⟩ = some (.slice (some ad) x.f4.length c4) ∧ w'.cell? ⟨g3, 4, none⟩ = some v ∧ w'.cell? (ad.add (i * 5)) = some (.int .i64 x.f4[i].f0) ∧ w'.cell? ⟨(ad.add (i * 5)).block, (ad.add (i * 5)).off + 1, none⟩ = some (.string x.f4[i].f1) ∧ w'.cell? ⟨(ad.add (i * 5)).block, (ad.add (i * 5)).off + 2, none⟩ = some (.int .i64 x.f4[i].f2) ∧ w'.cell? ⟨(ad.add (i * 5)).block, (ad.add (i * 5)).off + 3, none⟩ = some (.slice G3 x.f4[i].f3.length m3) ∧ w'.cell? ⟨(ad.add (i * 5)).block, (ad.add (i * 5)).off + 4, none⟩ = some (.slice G4 x.f4[i].f4.length m4)) (ds := [11]) #[false, false, false, false, false, false, false, false, false, false, false, false] (by kernel_rfl) rfl rfl (SK.out _ HD.out.fr) (fun hHeld => ?_)
        clear p4
        generalize wr.drew = wd at HD hHeld ⊢
        refine pure_ (i := 0) (N := some 23) (v := ?_) (a' := ?_) #[true, false, false, false, false, false, false, false, false, false, false, false] rfl rfl (by kernel_rfl) (fun _ _ _ h => h) (Or.inl ⟨by rfl, ?_⟩) ?_ ?_
        rotate_left
        · intro w'
          go_simp
          with_reducible rfl
        rotate_left
        · simp only [Act.put, List.setIfInBounds_toArray, List.set_cons_zero, List.set_cons_succ, i64_w, i32_w]
          rfl
        refine pure_ (i := 2) (N := some 25) (v := ?_) (a' := ?_) #[true, false, true, false, false, false, false, false, false, false, false, false] rfl rfl (by kernel_rfl) (fun _ _ _ h => h) (Or.inl ⟨by rfl, ?_⟩) ?_ ?_
        rotate_left
        · intro w'
          go_simp
          with_reducible rfl
        rotate_left
        · simp only [Act.put, List.setIfInBounds_toArray, List.set_cons_zero, List.set_cons_succ, i64_w, i32_w]
          rfl
        refine pure_ (i := 4) (N := some 27) (v := ?_) (a' := ?_) #[true, false, true, false, true, false, false, false, false, false, false, false] rfl rfl (by kernel_rfl) (fun _ _ _ h => h) (Or.inl ⟨by rfl, ?_⟩) ?_ ?_
        rotate_left
        · intro w'
          go_simp
          with_reducible rfl
        rotate_left
        · simp only [Act.put, List.setIfInBounds_toArray, List.set_cons_zero, List.set_cons_succ, i64_w, i32_w]
          rfl
        refine take_ (i := 1) (N := some 24) (v := ?_) (a' := ?_) #[true, true, true, false, true, false, false, false, false, false, false, false] rfl rfl (by kernel_rfl) (fun _ _ _ h => h) (Or.inl ⟨by rfl, ?_⟩) hHeld ?_ ?_
        rotate_left
        · rintro w' ⟨s0, s1, s2, s3, s4, s5, s6⟩
          go_simp
          with_reducible rfl
        rotate_left
        · simp only [Act.put, List.setIfInBounds_toArray, List.set_cons_zero, List.set_cons_succ, i64_w, i32_w]
          rfl
        refine take_ (i := 3) (N := some 26) (v := ?_) (a' := ?_) #[true, true, true, true, true, false, false, false, false, false, false, false] rfl rfl (by kernel_rfl) (fun _ _ _ h => h) (Or.inl ⟨by rfl, ?_⟩) hHeld ?_ ?_
        rotate_left
        · rintro w' ⟨s0, s1, s2, s3, s4, s5, s6⟩
          go_simp
          with_reducible rfl
        rotate_left
        · simp only [Act.put, List.setIfInBounds_toArray, List.set_cons_zero, List.set_cons_succ, i64_w, i32_w]
          rfl
        refine pure_ (i := 5) (N := some 28) (v := ?_) (a' := ?_) #[true, true, true, true, true, true, false, false, false, false, false, false] rfl rfl (by kernel_rfl) (fun _ _ _ h => h) (Or.inl ⟨by rfl, ?_⟩) ?_ ?_
        rotate_left
        · intro w'
          go_simp
          with_reducible rfl
        rotate_left
        · simp only [Act.put, List.setIfInBounds_toArray, List.set_cons_zero, List.set_cons_succ, i64_w, i32_w]
          rfl
        refine take_ (i := 6) (N := some 29) (v := ?_) (a' := ?_) #[true, true, true, true, true, true, true, false, false, false, false, false] rfl rfl (by kernel_rfl) (fun _ _ _ h => h) (Or.inl ⟨by rfl, ?_⟩) hHeld ?_ ?_
        rotate_left
        · rintro w' ⟨s0, s1, s2, s3, s4, s5, s6⟩
          go_simp
          with_reducible rfl
        rotate_left
        · simp only [Act.put, List.setIfInBounds_toArray, List.set_cons_zero, List.set_cons_succ, i64_w, i32_w]
          rfl
        refine one_ (i := 7) (N := some 30) #[true, true, true, true, true, true, true, true, false, false, false, false] rfl rfl (by kernel_rfl) (by decide) (fun K hK => ?_)
        refine goes_ Try.func68 (by kernel_rfl) rfl #[.agg #[.int .i64 x.f4[i].f0, .string x.f4[i].f1, .int .i64 x.f4[i].f2, .slice G3 x.f4[i].f3.length m3, .slice G4 x.f4[i].f4.length m4]] (by rfl) rfl rfl (by (try simp only [List.map_toArray, List.map_cons, List.map_nil]); first | done | rfl) ?_
        refine (IH.out x.f4[i] (List.getElem_mem hlt) G3 m3 G4 m4 wd (HK.out.below HD.out.fr.b) HKT.out).mono ?_
        rintro e w7 ⟨u3, u4, rfl, hn, hb7⟩
        refine ⟨_, rfl, ?_⟩
        obtain ⟨J3, q3, J4, q4, rfl, rfl⟩ : ∃ J3 q3 J4 q4, u3 = .slice J3 (x.f4[i]).f3.length q3 ∧ u4 = .slice J4 (x.f4[i]).f4.length q4 := by
          obtain ⟨fk, hk2, _⟩ := hn
          obtain ⟨J3, q3, J4, q4, e3, e4, _⟩ := hk2.In
          exact ⟨J3, q3, J4, q4, e3, e4⟩
        have H7 := Lib.hid (HD.out.later hb7)
        have HN := Lib.hid hn
        have HLT := Lib.hid (And.intro HD.out.lt HD.out.fr.lt)
        clear hn hb7
        refine hK.out _ _ (SK.out _ H7.out.fr) (fun hHeld => ?_)
        clear hK K
        refine norm_ (a' := ?_) ?_ ?_
        rotate_left
        · show Act.put _ (some 30) _ = _
          simp only [Act.put, List.setIfInBounds_toArray, List.set_cons_zero, List.set_cons_succ, i64_w, i32_w]
          rfl
        refine one_ (i := 8) (N := some 31) #[true, true, true, true, true, true, true, true, true, false, false, false] rfl rfl (by kernel_rfl) (by decide) (fun K hK => ?_)
        refine value_ (w1 := ?_) (v := ?_) (by rfl) rfl ?_ ?_
        rotate_left 2
        · go_simp
          constructor
          · rfl
          · rfl
        refine hK.out _ _ (SK.out _ (H7.out.fr.later (below_new _ _))) (fun hHeld => ?_)
        clear hK K
        refine norm_ (a' := ?_) ?_ ?_
        rotate_left
        · show Act.put _ (some 31) _ = _
          simp only [Act.put, List.setIfInBounds_toArray, List.set_cons_zero, List.set_cons_succ, i64_w, i32_w]
          rfl
        refine one_ (i := 9) (N := some 32) #[true, true, true, true, true, true, true, true, true, true, false, false] rfl rfl (by kernel_rfl) (by decide) (fun K hK => ?_)
        have hl0 : (x.f4.take i).length = i := by simp; omega
        refine step_append_cells (w0 := w) (W := w7) w.heap.size (by rfl) (.tmp 24) (.tmp 31) 28 30 (.agg #[.int .i64 0, .string ⟨#[]⟩, .int .i64 0, .slice none 0 0, .slice none 0 0]) 5 80 rfl Try.underlying28 infoF rfl (by decide) (by omega) v (x.f4.take i).length inner [.int .i64 (x.f4[i]).f0, .string (x.f4[i]).f1, .int .i64 (x.f4[i]).f2, .slice J3 (x.f4[i]).f3.length q3, .slice J4 (x.f4[i]).f4.length q4] rfl rfl rfl (by simp [Value.oneCell']) (own_base_ H7.out.o4 (fun b hb => by have := (H7.out.ge b (by simp [obs_mem, hb])).1; omega)) H7.out.fr.b H7.out.fr.b.size (by have := HLN.out; rw [hl0]; omega) ?_
        intro v' w8 ho hb8 hg8 hat8
        obtain ⟨fp', hC8⟩ := H7.out.more HLT.out.1 HLT.out.2.2 HLT.out.2.1 HN.out (own_weaken ho (Nat.zero_le _)) hg8 hat8
        have hf8 := H7.out.fr.grown hg8 (fun c hc => H7.out.ge c (by simp [obs_mem, hc]))
        have hv' : ∃ A c, v' = .slice A ((x.f4.take i).length + 1) c := by
          rcases ho with ⟨_, ⟨rfl, h0⟩ | ⟨g, cap, cur, rfl, _⟩⟩
          · exact absurd h0 (by omega)
          · exact ⟨_, _, rfl⟩
        rw [hl0] at hv'
        obtain ⟨A', c', rfl⟩ := hv'
        have H8 := Lib.hid hf8
        have HC8 := Lib.hid hC8
        clear ho hb8 hg8 hat8 hf8 hC8
        refine hK.out _ _ (SK.out _ H8.out) (fun hHeld => ?_)
        clear hK K
        refine norm_ (a' := ?_) ?_ ?_
        rotate_left
        · show Act.put _ (some 32) _ = _
          simp only [Act.put, List.setIfInBounds_toArray, List.set_cons_zero, List.set_cons_succ, i64_w, i32_w]
          rfl
        refine pure_ (i := 10) (N := some 33) (v := ?_) (a' := ?_) #[true, true, true, true, true, true, true, true, true, true, true, false] rfl rfl (by kernel_rfl) (fun _ _ _ h => h) (Or.inl ⟨by rfl, ?_⟩) ?_ ?_
        rotate_left
        · intro w'
          go_simp
          with_reducible rfl
        rotate_left
        · simp only [Act.put, List.setIfInBounds_toArray, List.set_cons_zero, List.set_cons_succ, i64_w, i32_w]
          rfl
        refine last_ (i := 11) (N := none) #[true, true, true, true, true, true, true, true, true, true, true, true] rfl rfl (by kernel_rfl) (by decide) (fun K hK => ?_)
        have z4 := (fm_cells H8.out.k3).2.2.2.2
        have f4 := (fm_free H8.out.k3).2.2.2.2
        refine skip_ (w1 := ?_) (by rfl) rfl ?_ ?_
        rotate_left
        · go_simp
          rfl
        refine hK.out _ _ ?_
        clear hK K z4 f4
        refine done_ (by kernel_rfl) ?_
        have HX := Lib.hid (show x.f4.take i ++ [x.f4[i]] = x.f4.take (i + 1) from (List.take_succ_eq_append_getElem hlt).symm)
        rw [HX.out] at HC8
        try go_wp2
        go_roundg (x.f4.length - (i + 1))
        case measure => omega
        case rel => exact ⟨i + 1, by omega, Nat.le_refl _, by go_num, ⟨⟨_, _, _, HC8.out⟩⟩⟩
      · obtain rfl : i = x.f4.length := by omega
        obtain ⟨v, inner, fp, hC⟩ := HO.out
        rw [List.take_length] at hC
        obtain ⟨A4', c4', e4', -, -⟩ := hC.tr.C hC.o4
        subst e4'
        obtain ⟨p0, p1, p2, p3, p4⟩ := fm_cells hC.fr.k3
        obtain ⟨y0, y1, y2, y3, y4⟩ := fm_cells hC.fr.k1
        obtain ⟨z0, z1, z2, z3, z4⟩ := fm_cells hC.fr.k2
        obtain ⟨f0, f1, f2, f3, f4⟩ := fm_free hC.fr.k2
        have hn1 : g3 ≠ w.heap.size + 1 := by have := hC.fr.h3; omega
        have hn2 : w.heap.size + 1 ≠ g3 := fun e => hn1 e.symm
        obtain ⟨st1, st2, st3⟩ := st5 hC.fr.k2 (.int .i64 x.f0) (.string x.f1) (.int .i64 x.f2) (.slice D3 x.f3.length e3) (.slice A4' x.f4.length c4')
        have HNF := hC.newF (st2)
        rw [show (⟨x.f0, x.f1, x.f2, x.f3, x.f4⟩ : Fm) = x from by cases x; rfl] at HNF
        have HN := Lib.hid HNF
        have HB := Lib.hid (st3 _ _ hC.fr.b (by omega))
        clear hC HO st1 st2 st3 HNF
        go_wp2_with fail
        refine bodyPost_ret (v := .agg #[.int .i64 x.f0, .string x.f1, .int .i64 x.f2, (.slice D3 x.f3.length e3), .slice A4' x.f4.length c4']) (by simp [results, Try.results68, go_sem, z0, z1, z2, z3, z4]) rfl ?_
        exact ⟨_, _, rfl, HN.out, HB.out⟩
end Go.Proofs.Ytcbomlmlindjdaa
end
section
namespace Go.Proofs.Ytcbomlmlindjdaa
open Go.RowKit Go.Proofs.YtcbomlmlindjdaaW.PrintWords Go.Proofs.Ytcbomlmlindjdaa.Q
set_option linter.unusedVariables false
theorem bits_xor (a b : Nat) (ha : a < 2 ^ 40) (hb : b < 2 ^ 40) : bits .xor .i64 (a : Int) (b : Int) = ((a ^^^ b : Nat) : Int) := by
  have hp : (2 : Nat) ^ 40 ≤ 2 ^ IntKind.i64.bits := Nat.pow_le_pow_right (by decide) (by decide)
  have ha' : a % 2 ^ IntKind.i64.bits = a := Nat.mod_eq_of_lt (Nat.lt_of_lt_of_le ha hp)
  have hb' : b % 2 ^ IntKind.i64.bits = b := Nat.mod_eq_of_lt (Nat.lt_of_lt_of_le hb hp)
  simp only [bits, BitVec.ofInt_natCast, BitVec.toNat_xor, BitVec.toNat_ofNat, ha', hb']
  have h : a ^^^ b < 2 ^ 40 := Nat.xor_lt_two_pow ha hb
  rw [IntKind.wrap_i64]
  omega
/-- The bytes of an input. -/
def Bts (s : List Int) : Prop := s.length ≤ 2000 ∧ ∀ z, z ∈ s → 0 ≤ z ∧ z < 256
theorem rd_bts {s : List Int} (h : ∀ z, z ∈ s → 0 ≤ z ∧ z < 256) (i : Int) : 0 ≤ rd s i ∧ rd s i < 256 := by
  simp only [rd, List.getD]
  by_cases hi : i.toNat < s.length
  · rw [List.getElem?_eq_getElem hi]; exact h _ (List.getElem_mem hi)
  · rw [List.getElem?_eq_none (by omega)]; simp
theorem wr_in {n : Int} (h0 : 0 ≤ n) (h1 : n < 4611686018427387904) : wrap64 n = n := Go.IntWalk.wrap64_in _ ⟨by omega, by omega⟩
theorem wrN {m : Int} {n : Nat} (h : m = (n : Int)) (hn : n < 4611686018427387904) : wrap64 m = (n : Int) := by
  subst h
  exact wr_in (by omega) (by omega)
theorem pick_num (a c p dv u : Nat) (ha : a < 256) (hc : c < 256) (hp : p ≤ 1000000) (hd : dv ≤ p) (eu : u = a * 131 + c * 1117 + p * 29 + dv * 53) :
    wrap64 (a : Int) = (a : Int) ∧ wrap64 (c : Int) = (c : Int) ∧ wrap64 ((a : Int) * 131) = ((a * 131 : Nat) : Int) ∧ wrap64 ((c : Int) * 1117) = ((c * 1117 : Nat) : Int) ∧
    wrap64 (((a * 131 : Nat) : Int) + ((c * 1117 : Nat) : Int)) = ((a * 131 + c * 1117 : Nat) : Int) ∧ wrap64 ((p : Int) * 29) = ((p * 29 : Nat) : Int) ∧
    wrap64 (((a * 131 + c * 1117 : Nat) : Int) + ((p * 29 : Nat) : Int)) = ((a * 131 + c * 1117 + p * 29 : Nat) : Int) ∧ wrap64 (dv : Int) = (dv : Int) ∧
    wrap64 ((dv : Int) * 53) = ((dv * 53 : Nat) : Int) ∧ wrap64 (((a * 131 + c * 1117 + p * 29 : Nat) : Int) + ((dv * 53 : Nat) : Int)) = (u : Int) ∧
    wrap64 ((u / 64 : Nat) : Int) = ((u / 64 : Nat) : Int) ∧ bits .xor .i64 (u : Int) ((u / 64 : Nat) : Int) = ((u ^^^ (u / 64) : Nat) : Int) := by
  have hu : u < 1000000000 := by omega
  refine ⟨wrN rfl (by omega), wrN rfl (by omega), wrN (by simp) (by omega), wrN (by simp) (by omega), wrN (by simp) (by omega), wrN (by simp) (by omega), wrN (by simp) (by omega), wrN rfl (by omega), wrN (by simp) (by omega), wrN (by subst eu; simp) (by omega), wrN rfl (by omega), bits_xor _ _ (by omega) (by omega)⟩
theorem ev_pick {s : List Int} (hs : Bts s) (p : Nat) (hp : p ≤ 1000000) (n : Int) (hn : n ≤ 1000000) :
    ∃ v : Int, (1 ≤ n → 0 ≤ v ∧ v < n) ∧ Ev (fun k => spec_l15Rd_pick.f k s (p : Int) n) (v, ((p + 1 : Nat) : Int)) := by
  obtain ⟨hl, hb⟩ := hs
  have e1 : wrap64 ((p : Int) + 1) = ((p + 1 : Nat) : Int) := wr1 p (by omega)
  have e2 : wrap64 (((p + 1 : Nat) : Int) - 1) = (p : Int) := by rw [wr_in (by omega) (by omega)]; omega
  by_cases h1 : n < 1
  · refine ⟨0, fun h => by omega, ?_⟩
    simp only [spec_l15Rd_pick.f]
    refine Ev.pos h1 (Ev.step (fun k => by rw [spec_l15Rd_pick.j0]) (Ev.pos rfl ?_))
    rw [e1]; exact Ev.now _
  · by_cases h2 : s.length = 0
    · refine ⟨0, fun h => by omega, ?_⟩
      simp only [spec_l15Rd_pick.f]
      refine Ev.neg h1 (Ev.step (fun k => by rw [spec_l15Rd_pick.j0]) (Ev.pos (by simp [h2]) ?_))
      rw [e1]; exact Ev.now _
    · have h0 : (s.length : Int) ≠ 0 := by omega
      by_cases h3 : (p : Int) < (s.length : Int)
      · have hv := rd_bts hb (p : Int)
        refine ⟨Int.tmod (rd s p) n, fun h => ⟨Int.tmod_nonneg _ hv.1, Int.tmod_lt_of_pos _ (by omega)⟩, ?_⟩
        simp only [spec_l15Rd_pick.f]
        refine Ev.neg h1 (Ev.step (fun k => by rw [spec_l15Rd_pick.j0]) (Ev.neg (by simpa using h0) ?_))
        rw [e1, e2, wr_in hv.1 (by omega)]
        exact Ev.pos h3 (Ev.pos (by omega) (Ev.neg (by omega) (Ev.now _)))
      · obtain ⟨q, eq⟩ : ∃ q : Nat, q = p % s.length := ⟨_, rfl⟩
        obtain ⟨t, et⟩ : ∃ t : Nat, t = (p * 7 + 3) % s.length := ⟨_, rfl⟩
        obtain ⟨dv, ed⟩ : ∃ dv : Nat, dv = p / s.length := ⟨_, rfl⟩
        have hq : q < s.length := by rw [eq]; exact Nat.mod_lt _ (by omega)
        have ht : t < s.length := by rw [et]; exact Nat.mod_lt _ (by omega)
        have hd : dv ≤ p := by rw [ed]; exact Nat.div_le_self _ _
        have m1 : Int.tmod (p : Int) (s.length : Int) = (q : Int) := by rw [eq]; exact Go.IntWalk.up_tmod rfl rfl
        have w1 : wrap64 ((p : Int) * 7) = ((p * 7 : Nat) : Int) := wrN (by omega) (by omega)
        have w2 : wrap64 (((p * 7 : Nat) : Int) + 3) = ((p * 7 + 3 : Nat) : Int) := wrN (by omega) (by omega)
        have m2 : Int.tmod ((p * 7 + 3 : Nat) : Int) (s.length : Int) = (t : Int) := by rw [et]; exact Go.IntWalk.up_tmod rfl rfl
        have ha := rd_bts hb (q : Int)
        have hc := rd_bts hb (t : Int)
        obtain ⟨a, ea⟩ := Int.eq_ofNat_of_zero_le ha.1
        obtain ⟨c, ec⟩ := Int.eq_ofNat_of_zero_le hc.1
        have d1 : Int.tdiv (p : Int) (s.length : Int) = (dv : Int) := by rw [ed]; exact Go.IntWalk.up_tdiv rfl rfl
        rw [ea] at ha
        rw [ec] at hc
        obtain ⟨u, eu⟩ : ∃ u : Nat, u = a * 131 + c * 1117 + p * 29 + dv * 53 := ⟨_, rfl⟩
        clear eq et ed
        obtain ⟨wa, wc, wa2, wc2, w3, w4, w5, w6, w7, w8, w9, wb⟩ := pick_num a c p dv u (Int.ofNat_lt.1 ha.2) (Int.ofNat_lt.1 hc.2) hp hd eu
        have d2 : Int.tdiv (u : Int) 64 = ((u / 64 : Nat) : Int) := Go.IntWalk.up_tdiv rfl rfl
        refine ⟨Int.tmod ((u ^^^ (u / 64) : Nat) : Int) n, fun h => ⟨Int.tmod_nonneg _ (by omega), Int.tmod_lt_of_pos _ (by omega)⟩, ?_⟩
        simp only [spec_l15Rd_pick.f]
        refine Ev.neg h1 (Ev.step (fun k => by rw [spec_l15Rd_pick.j0]) (Ev.neg (by simpa using h0) ?_))
        simp only [e1, e2, w1, w2, m1, m2, d1, ea, ec, wa, wc, wa2, wc2, w3, w4, w5, w6, w7, w8, d2, w9, wb]
        exact Ev.neg h3 (Ev.neg h0 (Ev.pos (by omega) (Ev.pos (by omega) (Ev.pos (by omega) (Ev.pos (by omega) (Ev.neg (by omega) (Ev.now _)))))))
theorem ev_num {s : List Int} (hs : Bts s) (p : Nat) (hp : p ≤ 1000000) (l : List Int) (h1 : l ≠ []) (h2 : l.length ≤ 1000) :
    ∃ v : Int, v ∈ l ∧ Ev (fun k => spec_l15Rd_num.f k s (p : Int) l) (v, ((p + 1 : Nat) : Int)) := by
  have hl : 0 < l.length := List.length_pos_iff.2 h1
  obtain ⟨v, hv, he⟩ := ev_pick hs p hp (l.length : Int) (by omega)
  obtain ⟨h0, hn⟩ := hv (by omega)
  refine ⟨rd l v, ?_, ?_⟩
  · have : v.toNat < l.length := by omega
    simp only [rd, List.getD, List.getElem?_eq_getElem this, Option.getD_some]
    exact List.getElem_mem this
  · simp only [spec_l15Rd_num.f]
    exact Ev.bind he (Ev.pos h0 (Ev.pos hn (Ev.now _)))
theorem ev_of {s : List Int} (hs : Bts s) (p : Nat) (hp : p ≤ 1000000) (l : List ByteArray) (h1 : l ≠ []) (h2 : l.length ≤ 1000) :
    ∃ v : ByteArray, v ∈ l ∧ Ev (fun k => spec_l15Rd_of.f k s (p : Int) l) (v, ((p + 1 : Nat) : Int)) := by
  have hl : 0 < l.length := List.length_pos_iff.2 h1
  obtain ⟨v, hv, he⟩ := ev_pick hs p hp (l.length : Int) (by omega)
  obtain ⟨h0, hn⟩ := hv (by omega)
  refine ⟨rdOf ByteArray.empty l v, ?_, ?_⟩
  · have : v.toNat < l.length := by omega
    simp only [rdOf, List.getD, List.getElem?_eq_getElem this, Option.getD_some]
    exact List.getElem_mem this
  · simp only [spec_l15Rd_of.f]
    exact Ev.bind he (Ev.pos h0 (Ev.pos hn (Ev.now _)))
theorem ev_open (l : List Int) (h : ∀ z, z ∈ l → 0 ≤ z ∧ z < 256) : ∃ s, Bts s ∧ spec_l15Open.f l = some (s, 0) := by
  unfold spec_l15Open.f
  by_cases h2 : (l.length : Int) > 2000
  · rw [if_pos h2, if_pos (by omega)]
    exact ⟨_, ⟨by simp; omega, fun z hz => h z (List.mem_of_mem_take hz)⟩, rfl⟩
  · rw [if_neg h2]
    exact ⟨_, ⟨by omega, h⟩, rfl⟩
end Go.Proofs.Ytcbomlmlindjdaa
end
section
namespace Go.Proofs.Ytcbomlmlindjdaa
open Go.RowKit Go.Proofs.YtcbomlmlindjdaaW.PrintWords Go.Proofs.YtcbomlmlindjdaaW.PrintLast Go.Proofs.YtcbomlmlindjdaaW.PrintMore
set_option linter.unusedVariables false
set_option linter.unusedSimpArgs false
/-- What a function that draws a form leaves. -/
def DrPost (w0 : World) (g : Nat) (s : List Int) (q : Int) (y : Fm) (w : World) (e : Ending) (w' : World) : Prop :=
  ∃ v3 v4, e = .returned (.agg #[.int .i64 y.f0, .string y.f1, .int .i64 y.f2, v3, v4]) ∧ NewF w.heap.size w' y v3 v4 ∧ IsRd w0 w' g s q ∧ Below w0.heap.size w0 w' ∧ KeepBut w w' g none
def DressOk (s : List Int) (x : Fm) (p : Nat) (y : Fm) (q : Nat) : Prop := ∀ (g : Nat) (A3 : Option Addr) (c3 : Nat) (A4 : Option Addr) (c4 : Nat) (w0 w : World), IsRd w0 w g s (p : Int) → Below w0.heap.size w0 w → FmIn w x A3 c3 A4 c4 →
  Calls Try.prog 64 #[.pointer (some ⟨g, 0, none⟩), .agg #[.int .i64 x.f0, .string x.f1, .int .i64 x.f2, .slice A3 x.f3.length c3, .slice A4 x.f4.length c4]] w (DrPost w0 g s (q : Int) y w)
theorem add_plain (b i : Nat) : (⟨b, 0, none⟩ : Addr).add i = ⟨b, i, none⟩ := by unfold Addr.add; split <;> simp_all
/-- A block of numbers reads as_ a row. -/
theorem reads_block {W : World} {b : Nat} {cs : Array Value} {l : List Int} (hb : W.heap[b]? = some (.cells cs 3 (0, 0))) (hl : l.length ≤ 1000) (hcs : cs.toList = l.map (Value.int .i64)) : kI.C W (some ⟨b, 0, none⟩) l.length l := by
  refine Kd.C_of_reads (d := (0 : Int)) (h1 := fun _ => rfl) ⟨rfl, by omega, fun hn => ⟨⟨b, 0, none⟩, rfl, fun i hi => ?_⟩⟩
  rw [add_plain, blk_cell hb i]
  have h9 := congrArg (fun z => z[i]?) hcs
  simp only [Array.getElem?_toList, List.getElem?_map] at h9
  rw [h9, List.getElem?_eq_getElem hi, List.getD_eq_getElem?_getD, List.getElem?_eq_getElem hi]
  rfl
theorem alloc_at (w : World) (o : Obj) (k : Nat) : (w.alloc o).heap[k]? = if k = w.heap.size then some o else w.heap[k]? := by
  show (w.heap.push o)[k]? = _
  rw [Array.getElem?_push]
theorem alloc_size (w : World) (o : Obj) : (w.alloc o).heap.size = w.heap.size + 1 := by simp
abbrev sets7 : List (List Int) := [(([] : List Int)), (([1] : List Int)), (([2] : List Int)), (([1, 2] : List Int)), (([1, 3] : List Int)), (([1, 2, 3] : List Int)), (([99] : List Int))]
/-- The seven sets, laid one behind the other from block B on; the row of them; an empty row. -/
theorem sets_lit {U W2 : World} {B : Nat} (hB : U.heap.size = B) (hW : ∀ b, B ≤ b → b < B + 9 → W2.heap[b]? = (((((((((U.alloc (.cells #[] 3)).alloc (.cells #[.int .i64 1] 3)).alloc (.cells #[.int .i64 2] 3)).alloc (.cells #[.int .i64 1, .int .i64 2] 3)).alloc (.cells #[.int .i64 1, .int .i64 3] 3)).alloc (.cells #[.int .i64 1, .int .i64 2, .int .i64 3] 3)).alloc (.cells #[.int .i64 99] 3)).alloc (.cells #[.slice (some ⟨B, 0, none⟩) 0 0, .slice (some ⟨B + 1, 0, none⟩) 1 1, .slice (some ⟨B + 1 + 1, 0, none⟩) 1 1, .slice (some ⟨B + 1 + 1 + 1, 0, none⟩) 2 2, .slice (some ⟨B + 1 + 1 + 1 + 1, 0, none⟩) 2 2, .slice (some ⟨B + 1 + 1 + 1 + 1 + 1, 0, none⟩) 3 3, .slice (some ⟨B + 1 + 1 + 1 + 1 + 1 + 1, 0, none⟩) 1 1] 27)).alloc (.cells #[] 3)).heap[b]?) (j : Nat) (hj : j < 7) :
    ∃ A c, W2.cell? ⟨B + 1 + 1 + 1 + 1 + 1 + 1 + 1, j, none⟩ = some (.slice A (sets7[j]'hj).length c) ∧ (sets7[j]'hj).length ≤ c ∧ kI.C W2 A (sets7[j]'hj).length (sets7[j]'hj) ∧ W2.heap[B + 1 + 1 + 1 + 1 + 1 + 1 + 1 + 1]? = some (.cells #[] 3 (0, 0)) := by
  subst hB
  have h0 := hW U.heap.size (by omega) (by omega)
  have h1 := hW (U.heap.size + 1) (by omega) (by omega)
  have h2 := hW (U.heap.size + 2) (by omega) (by omega)
  have h3 := hW (U.heap.size + 3) (by omega) (by omega)
  have h4 := hW (U.heap.size + 4) (by omega) (by omega)
  have h5 := hW (U.heap.size + 5) (by omega) (by omega)
  have h6 := hW (U.heap.size + 6) (by omega) (by omega)
  have h7 := hW (U.heap.size + 7) (by omega) (by omega)
  have h8 := hW (U.heap.size + 8) (by omega) (by omega)
  clear hW
  simp only [alloc_at, alloc_size] at h0 h1 h2 h3 h4 h5 h6 h7 h8
  repeat (first | rw [if_pos (by omega)] at h0 | rw [if_neg (by omega)] at h0)
  repeat (first | rw [if_pos (by omega)] at h1 | rw [if_neg (by omega)] at h1)
  repeat (first | rw [if_pos (by omega)] at h2 | rw [if_neg (by omega)] at h2)
  repeat (first | rw [if_pos (by omega)] at h3 | rw [if_neg (by omega)] at h3)
  repeat (first | rw [if_pos (by omega)] at h4 | rw [if_neg (by omega)] at h4)
  repeat (first | rw [if_pos (by omega)] at h5 | rw [if_neg (by omega)] at h5)
  repeat (first | rw [if_pos (by omega)] at h6 | rw [if_neg (by omega)] at h6)
  repeat (first | rw [if_pos (by omega)] at h7 | rw [if_neg (by omega)] at h7)
  repeat (first | rw [if_pos (by omega)] at h8 | rw [if_neg (by omega)] at h8)
  have hcell : ∀ (b : Nat) (cs : Array Value) (u : Value) (i : Nat) (e : TypeId), W2.heap[b]? = some (.cells cs e (0, 0)) → cs[i]? = some u → W2.cell? ⟨b, i, none⟩ = some u := fun b cs u i e hb hu => (blk_cell hb i).trans hu
  rcases (show j = 0 ∨ j = 1 ∨ j = 2 ∨ j = 3 ∨ j = 4 ∨ j = 5 ∨ j = 6 by omega) with rfl | rfl | rfl | rfl | rfl | rfl | rfl
  · exact ⟨_, _, hcell _ _ _ _ _ h7 rfl, Nat.le_refl _, reads_block h0 (by simp) rfl, h8⟩
  · exact ⟨_, _, hcell _ _ _ _ _ h7 rfl, Nat.le_refl _, reads_block h1 (by simp) rfl, h8⟩
  · exact ⟨_, _, hcell _ _ _ _ _ h7 rfl, Nat.le_refl _, reads_block h2 (by simp) rfl, h8⟩
  · exact ⟨_, _, hcell _ _ _ _ _ h7 rfl, Nat.le_refl _, reads_block h3 (by simp) rfl, h8⟩
  · exact ⟨_, _, hcell _ _ _ _ _ h7 rfl, Nat.le_refl _, reads_block h4 (by simp) rfl, h8⟩
  · exact ⟨_, _, hcell _ _ _ _ _ h7 rfl, Nat.le_refl _, reads_block h5 (by simp) rfl, h8⟩
  · exact ⟨_, _, hcell _ _ _ _ _ h7 rfl, Nat.le_refl _, reads_block h6 (by simp) rfl, h8⟩
/-- The last five stores: the form goes into the result. -/
theorem Dr.put5 {w0 w W : World} {g : Nat} {s : List Int} {q : Int} (h : Dr w0 w g s q W) {b : Nat} (hb : w.heap.size ≤ b) (u0 u1 u2 u3 u4 : Value) : Dr w0 w g s q (((((W.setCell ⟨b, 0, none⟩ u0).setCell ⟨b, 1, none⟩ u1).setCell ⟨b, 2, none⟩ u2).setCell ⟨b, 3, none⟩ u3).setCell ⟨b, 4, none⟩ u4) :=
  ((((h.put hb _).put hb _).put hb _).put hb _).put hb _
set_option maxHeartbeats 4000000 in
set_option maxRecDepth 100000 in
theorem dress_walk {s : List Int} (x : Fm) (p p1 q : Nat) (j : Nat) (hj : j < 7) (y3 : List Int) (ys : List Fm) (ps : Nat → Nat) (ht : x.tot ≤ 100000) (hpick : Ev (fun k => Q.spec_l15Rd_pick.f k s (p : Int) 7) ((j : Int), ((p + 1 : Nat) : Int)))
    (h1 : p1 = if x.f0 = 1 then p + 1 else p) (h3 : y3 = if x.f0 = 1 then sets7[j] else x.f3) (hyl : ys.length = x.f4.length) (hp0 : ps 0 = p1) (hpn : ps x.f4.length = q) (hys : ∀ (i : Nat) (hi : i < x.f4.length) (hi2 : i < ys.length), DressOk s x.f4[i] (ps i) ys[i] (ps (i + 1))) : DressOk s x p ⟨x.f0, x.f1, x.f2, y3, ys⟩ q := by
  intro g A3 c3 A4 c4 w0 w hi hb hin
  have hmax := hin.g4.2.1
  have HI := Lib.hid hin
  have HD0 := Lib.hid (Dr.new hi hb)
  have HT := Lib.hid ht
  have H1 := Lib.hid h1
  have H3 := Lib.hid h3
  have HYL := Lib.hid hyl
  have HP0 := Lib.hid hp0
  have HPN := Lib.hid hpn
  have HYS := Lib.hid hys
  have HJ := Lib.hid hj
  obtain ⟨kp, hkp⟩ := hpick.rounds
  have HKP := Lib.hid hkp
  have r1 : (0 : Int) ≤ (j : Int) := by omega
  have r2 : (j : Int) < 7 := by omega
  have hlen := len_totL x.f4
  have hxt := x.tot_eq
  have HLN := Lib.hid (show x.f4.length ≤ 100000 by omega)
  clear hin hi hb ht h1 h3 hp0 hpn hys hpick hkp hlen hxt hyl
  go_enter Try.func64, Try.ntmps64
  go_wp2_with fail
  refine (l1Copy_any x A3 c3 A4 c4 _ (HI.out.below (below_step (below_new _ _) (below_new _ _))) (by have := HT.out; omega)).mono ?_
  rintro e w1 ⟨u3, u4, rfl, hn, hb1⟩
  obtain ⟨J3, q3, J4, q4, rfl, rfl⟩ : ∃ J3 q3 J4 q4, u3 = .slice J3 x.f3.length q3 ∧ u4 = .slice J4 x.f4.length q4 := by
    obtain ⟨fk, hk2, _⟩ := hn
    obtain ⟨J3, q3, J4, q4, e3, e4, _⟩ := hk2.In
    exact ⟨J3, q3, J4, q4, e3, e4⟩
  obtain ⟨k1, k2, b1⟩ := two_new hb1
  rw [show ((w.alloc (.cells #[.int .i64 x.f0, .string x.f1, .int .i64 x.f2, .slice A3 x.f3.length c3, .slice A4 x.f4.length c4] 30)).alloc (.cells #[.int .i64 0, .string ⟨#[]⟩, .int .i64 0, .slice none 0 0, .slice none 0 0] 30)).heap.size = w.heap.size + 2 from by simp] at hn
  obtain ⟨inner, fp, hdp⟩ := Dp.start (HD0.out.later b1) k1 k2 hn
  have HDP := Lib.hid hdp
  obtain ⟨p0, p1_, p2, p3, p4⟩ := fm_cells (blk_below k1 (below_new w1 (.cells #[.int .i64 x.f0, .string x.f1, .int .i64 x.f2, .slice J3 x.f3.length q3, .slice J4 x.f4.length q4] 30 (0, 0))))
  clear hb1 hn k1 k2 b1 hdp
  go_upto_if 12 with fail
  (try simp only [Act.put, List.setIfInBounds_toArray, List.set_cons_zero, List.set_cons_succ])
  go_cut [] (fun wc => ∃ (D3 : Option Addr) (e3 : Nat) (inner : List Value) (fp : List Nat), Aside0 (Dp w0 w g s (p1 : Int) (.cells #[.int .i64 x.f0, .string x.f1, .int .i64 x.f2, .slice A3 x.f3.length c3, .slice A4 x.f4.length c4] 30) (.cells #[.int .i64 0, .string ⟨#[]⟩, .int .i64 0, .slice none 0 0, .slice none 0 0] 30) w1.heap.size x.f0 x.f1 x.f2 y3 x.f4 (.slice D3 y3.length e3) (.slice J4 x.f4.length q4) inner fp wc))
  case first =>
    by_cases hk : x.f0 = 1
    · have t1 : (x.f0 == 1) = true := beq_iff_eq.mpr hk
      have HX1 := Lib.hid hk
      clear hk
      (first | rw [t1] | skip)
      go_wp2_with fail
      refine (Q.spec_l15Rd_pick.calls kp g s (p : Int) 7 (j : Int) _ w0 _ (HDP.out.dr.later (by repeat (first | exact Below.refl _ _ | refine below_alloc ?_ _))).is (HDP.out.dr.later (by repeat (first | exact Below.refl _ _ | refine below_alloc ?_ _))).b HKP.out).mono ?_
      rintro e w2 ⟨rfl, hi2, hb2, hk2⟩
      have hset := sets_lit (U := w1.alloc (.cells #[.int .i64 x.f0, .string x.f1, .int .i64 x.f2, .slice J3 x.f3.length q3, .slice J4 x.f4.length q4] 30 (0, 0))) (W2 := w2) (B := w1.heap.size + 1) (by simp) (fun b hb1 hb2 => hk2.2 b (by simp only [alloc_size]; omega) (by have := HDP.out.dr.lt; have := HDP.out.h3; omega) (by simp)) j HJ.out
      obtain ⟨As, cs, hcell, hcl, hC, hemp⟩ := hset
      have hdp2 := (HDP.out.later (by repeat (first | exact Below.refl _ _ | refine below_alloc ?_ _))).call hi2 hb2 hk2
      have hfr := HDP.out.fresh (b := w1.heap.size + 1 + 1 + 1 + 1 + 1 + 1 + 1 + 1 + 1) (by simp only [alloc_size]; omega)
      have hR0 : kI.R 3 w2 (w1.heap.size + 1) (fun _ => True) (.slice (some ⟨w1.heap.size + 1 + 1 + 1 + 1 + 1 + 1 + 1 + 1 + 1, 0, none⟩) 0 0) [] :=
        Kd.R_of_own ⟨by simp [encs], .inr ⟨_, 0, #[], rfl, by omega, hemp, Nat.le_refl _, Nat.zero_le _, by simp, by simp [encs]⟩⟩ (fun _ _ => trivial)
      have hl7 : (sets7[j]'HJ.out).length ≤ 3 := by
        rcases (show j = 0 ∨ j = 1 ∨ j = 2 ∨ j = 3 ∨ j = 4 ∨ j = 5 ∨ j = 6 by have := HJ.out; omega) with rfl | rfl | rfl | rfl | rfl | rfl | rfl <;> simp
      have HL7 := Lib.hid hl7
      have HR0 := Aside0.mk hR0
      have HCC := Aside0.mk hC
      have HD2 := Lib.hid hdp2
      have HFR := Lib.hid hfr
      have HEL := Lib.hid (blk_lt hemp)
      clear hi2 hb2 hk2 hcl hC hemp hdp2 hfr hR0 hl7
      go_wp2_with (first | ((with_reducible refine gate_dst (N := 29) rfl ?_); refine Kd.R_append_row (Value.int .i64) (0 : Int) (w0 := w2) (w1.heap.size + 1) rfl (.tmp 21) (.tmp 28) 27 3 (.int .i64 0) 8 rfl Try.underlying27 infoI rfl (by decide) (.slice (some ⟨w1.heap.size + 1 + 1 + 1 + 1 + 1 + 1 + 1 + 1 + 1, 0, none⟩) 0 0) [] (sets7[j]'HJ.out) As (sets7[j]'HJ.out).length cs (fun _ => True) rfl rfl (fun _ _ => trivial) HR0.out HCC.out (Below.refl _ _) (by have := HEL.out; omega) (by have := HL7.out; simp; omega) ?_; intro v5 w3 ho5 hb5 hg5 hat5; rw [List.nil_append] at ho5; obtain ⟨D5, e5, e6⟩ := Kd.R_slice ho5; subst e6; have hbox3 := blk_grown HD2.out.k3 hg5 (by simp only [Value.ownBlock, ne_eq, Option.some.injEq]; omega); have z3 := (fm_cells hbox3).2.2.2.1; have f3 := (fm_free hbox3).2.2.2.1; have HO5 := Aside0.mk ho5; have HG5 := Lib.hid (And.intro hg5 hat5); clear hbox3 ho5 hb5 hg5 hat5))
      go_meet
      case rel =>
        have hq := H1.out
        have hy := H3.out
        rw [if_pos HX1.out] at hq hy
        rw [hq, hy]
        refine ⟨D5, e5, inner, fp, ⟨HD2.out.scopes HG5.out.1 (fun b hb => ?_) (own_weaken (Kd.own_of_R HO5.out) (Nat.zero_le _)) (fun b hb => ?_)⟩⟩
        · have e : b = w1.heap.size + 1 + 1 + 1 + 1 + 1 + 1 + 1 + 1 + 1 := by simpa [Value.ownBlock] using hb.symm
          rw [e]; exact HFR.out
        · rcases HG5.out.2 with h | ⟨c, h, hc⟩
          · rw [h] at hb
            have e : b = w1.heap.size + 1 + 1 + 1 + 1 + 1 + 1 + 1 + 1 + 1 := by simpa [Value.ownBlock] using hb.symm
            rw [e]; exact HFR.out
          · rw [h] at hb
            cases hb
            exact HD2.out.fresh hc
    · have t1 : (x.f0 == 1) = false := beq_eq_false_iff_ne.mpr hk
      have HX1 := Lib.hid hk
      clear hk
      (first | rw [t1] | skip)
      go_wp2
      go_meet
      case rel =>
        have hq := H1.out
        have hy := H3.out
        rw [if_neg HX1.out] at hq hy
        rw [hq, hy]
        exact ⟨J3, q3, inner, fp, ⟨HDP.out⟩⟩
  case rest =>
    obtain ⟨D3, e3, inner0, fp0, HCP⟩ := hcut
    clear HDP p0 p1_ p2 p3 p4 inner fp
    go_wp2_with fail
    go_loopg [7] x.f4.length (fun kq v7 w' => ∃ i : Nat, i ≤ x.f4.length ∧ x.f4.length - i ≤ kq ∧ v7 = .int .i64 i ∧ Aside0 (∃ inner fp, Dp w0 w g s (ps i : Int) (.cells #[.int .i64 x.f0, .string x.f1, .int .i64 x.f2, .slice A3 x.f3.length c3, .slice A4 x.f4.length c4] 30) (.cells #[.int .i64 0, .string ⟨#[]⟩, .int .i64 0, .slice none 0 0, .slice none 0 0] 30) w1.heap.size x.f0 x.f1 x.f2 y3 (ys.take i ++ x.f4.drop i) (.slice D3 y3.length e3) (.slice J4 x.f4.length q4) inner fp w'))
    case atStart => exact ⟨0, Nat.zero_le _, by omega, rfl, ⟨⟨inner0, fp0, by rw [HP0.out]; simpa using HCP.out⟩⟩⟩
    case round =>
      obtain ⟨i, hi, hg, rfl, HO⟩ := hrel
      by_cases hlt : i < x.f4.length
      · obtain ⟨inner, fp, hC⟩ := HO.out
        have hyl2 := HYL.out
        have hlen : (ys.take i ++ x.f4.drop i).length = x.f4.length := by simp; omega
        have ho4 := hC.o4
        rw [hlen] at ho4
        obtain ⟨gr, cap, e, hgr0, hgr1⟩ := ho4.form (by omega)
        obtain ⟨rfl, rfl⟩ : J4 = some ⟨gr, 0, none⟩ ∧ q4 = cap := by injection e with e1 _ e2; exact ⟨e1, e2⟩
        clear e
        have htr := hC.tr
        rw [List.drop_eq_getElem_cons hlt] at htr
        obtain ⟨ia, ib0, fa, fb0, rfl, rfl, hta, htb0⟩ := TrL.split _ htr
        obtain ⟨z3, z4, ib, fx, fb, rfl, rfl, htx, htb⟩ := TrL.cons_inv htb0
        have hla := hta.len
        rw [List.length_take, Nat.min_eq_left (by omega)] at hla
        obtain ⟨G3, m3, G4, m4, rfl, rfl, hkin⟩ := htx.In
        have HLEN := Lib.hid hlen
        have HTA := Lib.hid hta
        have HTB := Lib.hid htb
        have HLA := Lib.hid hla
        have HKIN := Lib.hid hkin
        have HC := Lib.hid hC
        have SK := Lib.hid (fun (W : World) (q' : Int) (h : Dp w0 w g s q' (.cells #[.int .i64 x.f0, .string x.f1, .int .i64 x.f2, .slice A3 x.f3.length c3, .slice A4 x.f4.length c4] 30) (.cells #[.int .i64 0, .string ⟨#[]⟩, .int .i64 0, .slice none 0 0, .slice none 0 0] 30) w1.heap.size x.f0 x.f1 x.f2 y3 (ys.take i ++ x.f4.drop i) (.slice D3 y3.length e3) (.slice (some ⟨gr, 0, none⟩) x.f4.length q4) (ia ++ ([.int .i64 x.f4[i].f0, .string x.f4[i].f1, .int .i64 x.f4[i].f2, .slice G3 x.f4[i].f3.length m3, .slice G4 x.f4[i].f4.length m4] ++ ib)) (fa ++ (fx ++ fb)) W) => (⟨(fm_cells h.k3).2.2.2.2, (row_put (by have := h.o4; rw [hlen] at this; exact this) hla).1⟩ : W.cell? ⟨w1.heap.size, 4, none⟩ = some (.slice (some ⟨gr, 0, none⟩) x.f4.length q4) ∧ W.cell? ⟨gr, i * 5, none⟩ = some (.int .i64 x.f4[i].f0) ∧ W.cell? ⟨gr, i * 5 + 1, none⟩ = some (.string x.f4[i].f1) ∧ W.cell? ⟨gr, i * 5 + 2, none⟩ = some (.int .i64 x.f4[i].f2) ∧ W.cell? ⟨gr, i * 5 + 3, none⟩ = some (.slice G3 x.f4[i].f3.length m3) ∧ W.cell? ⟨gr, i * 5 + 4, none⟩ = some (.slice G4 x.f4[i].f4.length m4)))
        have hp4 := (SK.out _ _ hC).1
        have s1 : (0 : Int) ≤ (i : Int) := by omega
        have s2 : (i : Int) < (x.f4.length : Int) := by omega
        clear hC hlen ho4 htr hta htb htb0 htx hla hkin hyl2 HO hgr0 hgr1
        go_wp2_with fail
        have HD := Lib.hid (HC.out.later (below_drew (Below.refl _ _)))
        have HKD := Lib.hid (HKIN.out.below (below_drew (Below.refl _ _)))
        have HDK := Lib.hid (fun b (hb : b < wr.heap.size) => (below_drew (Below.refl wr.heap.size wr)).block b hb)
        refine start_ (n := 12) (S := fun W => W.cell? ⟨w1.heap.size, 4, none⟩ = some (.slice (some ⟨gr, 0, none⟩) x.f4.length q4) ∧ W.cell? ⟨gr, i * 5, none⟩ = some (.int .i64 x.f4[i].f0) ∧ W.cell? ⟨gr, i * 5 + 1, none⟩ = some (.string x.f4[i].f1) ∧ W.cell? ⟨gr, i * 5 + 2, none⟩ = some (.int .i64 x.f4[i].f2) ∧ W.cell? ⟨gr, i * 5 + 3, none⟩ = some (.slice G3 x.f4[i].f3.length m3) ∧ W.cell? ⟨gr, i * 5 + 4, none⟩ = some (.slice G4 x.f4[i].f4.length m4)) (ds := [11]) #[false, false, false, false, false, false, false, false, false, false, false, false] (by kernel_rfl) rfl rfl (SK.out _ _ HD.out) (fun hHeld => ?_)
        clear hp4
        generalize wr.drew = wd at HD HKD HDK hHeld ⊢
        refine pure_ (i := 0) (N := some 38) (v := ?_) (a' := ?_) #[true, false, false, false, false, false, false, false, false, false, false, false] rfl rfl (by kernel_rfl) (fun _ _ _ h => h) (Or.inl ⟨by rfl, ?_⟩) ?_ ?_
        rotate_left
        · intro w'
          go_simp
          with_reducible rfl
        rotate_left
        · simp only [Act.put, List.setIfInBounds_toArray, List.set_cons_zero, List.set_cons_succ, i64_w, i32_w]
          rfl
        refine pure_ (i := 2) (N := some 40) (v := ?_) (a' := ?_) #[true, false, true, false, false, false, false, false, false, false, false, false] rfl rfl (by kernel_rfl) (fun _ _ _ h => h) (Or.inl ⟨by rfl, ?_⟩) ?_ ?_
        rotate_left
        · intro w'
          go_simp
          with_reducible rfl
        rotate_left
        · simp only [Act.put, List.setIfInBounds_toArray, List.set_cons_zero, List.set_cons_succ, i64_w, i32_w]
          rfl
        refine pure_ (i := 3) (N := some 41) (v := ?_) (a' := ?_) #[true, false, true, true, false, false, false, false, false, false, false, false] rfl rfl (by kernel_rfl) (fun _ _ _ h => h) (Or.inl ⟨by rfl, ?_⟩) ?_ ?_
        rotate_left
        · intro w'
          go_simp
          with_reducible rfl
        rotate_left
        · simp only [Act.put, List.setIfInBounds_toArray, List.set_cons_zero, List.set_cons_succ, i64_w, i32_w]
          rfl
        refine pure_ (i := 4) (N := some 42) (v := ?_) (a' := ?_) #[true, false, true, true, true, false, false, false, false, false, false, false] rfl rfl (by kernel_rfl) (fun _ _ _ h => h) (Or.inl ⟨by rfl, ?_⟩) ?_ ?_
        rotate_left
        · intro w'
          go_simp
          with_reducible rfl
        rotate_left
        · simp only [Act.put, List.setIfInBounds_toArray, List.set_cons_zero, List.set_cons_succ, i64_w, i32_w]
          rfl
        refine pure_ (i := 6) (N := some 44) (v := ?_) (a' := ?_) #[true, false, true, true, true, false, true, false, false, false, false, false] rfl rfl (by kernel_rfl) (fun _ _ _ h => h) (Or.inl ⟨by rfl, ?_⟩) ?_ ?_
        rotate_left
        · intro w'
          go_simp
          with_reducible rfl
        rotate_left
        · simp only [Act.put, List.setIfInBounds_toArray, List.set_cons_zero, List.set_cons_succ, i64_w, i32_w]
          rfl
        refine take_ (i := 1) (N := some 39) (v := ?_) (a' := ?_) #[true, true, true, true, true, false, true, false, false, false, false, false] rfl rfl (by kernel_rfl) (fun _ _ _ h => h) (Or.inl ⟨by rfl, ?_⟩) hHeld ?_ ?_
        rotate_left
        · rintro w' ⟨s0, e0, e1, e2, e3_, e4⟩
          go_simp
          with_reducible rfl
        rotate_left
        · simp only [Act.put, List.setIfInBounds_toArray, List.set_cons_zero, List.set_cons_succ, i64_w, i32_w]
          rfl
        refine take_ (i := 5) (N := some 43) (v := ?_) (a' := ?_) #[true, true, true, true, true, true, true, false, false, false, false, false] rfl rfl (by kernel_rfl) (fun _ _ _ h => h) (Or.inl ⟨by rfl, ?_⟩) hHeld ?_ ?_
        rotate_left
        · rintro w' ⟨s0, e0, e1, e2, e3_, e4⟩
          go_simp
          with_reducible rfl
        rotate_left
        · simp only [Act.put, List.setIfInBounds_toArray, List.set_cons_zero, List.set_cons_succ, i64_w, i32_w]
          rfl
        refine pure_ (i := 7) (N := some 45) (v := ?_) (a' := ?_) #[true, true, true, true, true, true, true, true, false, false, false, false] rfl rfl (by kernel_rfl) (fun _ _ _ h => h) (Or.inl ⟨by rfl, ?_⟩) ?_ ?_
        rotate_left
        · intro w'
          go_simp
          with_reducible rfl
        rotate_left
        · simp only [Act.put, List.setIfInBounds_toArray, List.set_cons_zero, List.set_cons_succ, i64_w, i32_w]
          rfl
        refine take_ (i := 8) (N := some 46) (v := ?_) (a' := ?_) #[true, true, true, true, true, true, true, true, true, false, false, false] rfl rfl (by kernel_rfl) (fun _ _ _ h => h) (Or.inl ⟨by rfl, ?_⟩) hHeld ?_ ?_
        rotate_left
        · rintro w' ⟨s0, e0, e1, e2, e3_, e4⟩
          go_simp
          with_reducible rfl
        rotate_left
        · simp only [Act.put, List.setIfInBounds_toArray, List.set_cons_zero, List.set_cons_succ, i64_w, i32_w]
          rfl
        refine one_ (i := 9) (N := some 47) #[true, true, true, true, true, true, true, true, true, true, false, false] rfl rfl (by kernel_rfl) (by decide) (fun K hK => ?_)
        refine goes_ Try.func64 (by kernel_rfl) rfl #[.pointer (some ⟨g, 0, none⟩), .agg #[.int .i64 x.f4[i].f0, .string x.f4[i].f1, .int .i64 x.f4[i].f2, .slice G3 x.f4[i].f3.length m3, .slice G4 x.f4[i].f4.length m4]] (by rfl) rfl rfl (by (try simp only [List.map_toArray, List.map_cons, List.map_nil]); first | done | rfl) ?_
        refine (HYS.out i hlt (by have := HYL.out; omega) g G3 m3 G4 m4 w0 wd HD.out.dr.is HD.out.dr.b HKD.out).mono ?_
        rintro e w7 ⟨u3, u4, rfl, hn, hi7, hb7, hk7⟩
        refine ⟨_, rfl, ?_⟩
        have hy9 : i < ys.length := by have := HYL.out; omega
        obtain ⟨U3, n3_, U4, n4_, rfl, rfl⟩ : ∃ U3 n3 U4 n4, u3 = .slice U3 (ys[i]'hy9).f3.length n3 ∧ u4 = .slice U4 (ys[i]'hy9).f4.length n4 := by
          obtain ⟨fk, hk2, _⟩ := hn
          obtain ⟨J3, q3, J4, q4, e3, e4, _⟩ := hk2.In
          exact ⟨J3, q3, J4, q4, e3, e4⟩
        have H7 := Lib.hid (HD.out.call hi7 hb7 hk7)
        have HN := Lib.hid hn
        have HK7 := Lib.hid hk7
        clear hn hi7 hb7 hk7
        refine hK.out _ _ (SK.out _ _ H7.out) (fun hHeld => ?_)
        clear hK K
        refine norm_ (a' := ?_) ?_ ?_
        rotate_left
        · show Act.put _ (some 47) _ = _
          simp only [Act.put, List.setIfInBounds_toArray, List.set_cons_zero, List.set_cons_succ, i64_w, i32_w]
          rfl
        refine pure_ (i := 10) (N := some 48) (v := ?_) (a' := ?_) #[true, true, true, true, true, true, true, true, true, true, true, false] rfl rfl (by kernel_rfl) (fun _ _ _ h => h) (Or.inl ⟨by rfl, ?_⟩) ?_ ?_
        rotate_left
        · intro w'
          go_simp
          with_reducible rfl
        rotate_left
        · simp only [Act.put, List.setIfInBounds_toArray, List.set_cons_zero, List.set_cons_succ, i64_w, i32_w]
          rfl
        refine last_ (i := 11) (N := none) #[true, true, true, true, true, true, true, true, true, true, true, true] rfl rfl (by kernel_rfl) (by decide) (fun K hK => ?_)
        obtain ⟨_, z0, z1, z2, z3, z4⟩ := SK.out _ _ H7.out
        have hfz := (row_put (by have := H7.out.o4; rw [HLEN.out] at this; exact this) HLA.out).2.1
        have f0 := hfz (i * 5)
        have f1 := hfz (i * 5 + 1)
        have f2 := hfz (i * 5 + 2)
        have f3 := hfz (i * 5 + 3)
        have f4 := hfz (i * 5 + 4)
        clear hfz
        have HX := Lib.hid (show ys.take i ++ ys[i] :: x.f4.drop (i + 1) = ys.take (i + 1) ++ x.f4.drop (i + 1) from by rw [List.take_succ_eq_append_getElem hy9, List.append_assoc]; rfl)
        have hla2 : (ys.take i).length = i := by have := HYL.out; simp; omega
        have hltd := HD.out.lt
        obtain ⟨fp', hC7⟩ := H7.out.kid (B := wd.heap.size) HLEN.out.symm (by rw [List.drop_eq_getElem_cons hlt]) rfl rfl (HTA.out.move _ (fun b hb => by have hl := HC.out.lt b (by simp [hb]); have hge := HC.out.ge b (by simp [hb]); have hg0 := HC.out.dr.lt; rw [HK7.out.2 b (by have := HD.out.lt b (by simp [hb]); omega) (by omega) (by simp)]; exact HDK.out b hl)) (HTB.out.move _ (fun b hb => by have hl := HC.out.lt b (by simp [hb]); have hge := HC.out.ge b (by simp [hb]); have hg0 := HC.out.dr.lt; rw [HK7.out.2 b (by have := HD.out.lt b (by simp [hb]); omega) (by omega) (by simp)]; exact HDK.out b hl)) hltd HD.out.lts.2 HD.out.lts.1 HN.out
        rw [hla2] at hC7
        rw [HX.out] at hC7
        have HC7 := Lib.hid hC7
        clear hC7 hla2 hltd
        refine skip_ (w1 := ?_) (by rfl) rfl ?_ ?_
        rotate_left
        · go_simp
          rfl
        refine hK.out _ _ ?_
        clear hK K z0 z1 z2 z3 z4 f0 f1 f2 f3 f4
        refine done_ (by kernel_rfl) ?_
        try go_wp2
        go_roundg (x.f4.length - (i + 1))
        case measure => omega
        case rel => exact ⟨i + 1, by omega, Nat.le_refl _, by go_num, ⟨⟨_, _, HC7.out⟩⟩⟩
      · obtain rfl : i = x.f4.length := by omega
        obtain ⟨inner, fp, hC⟩ := HO.out
        rw [List.drop_length, List.append_nil, List.take_of_length_le (by have := HYL.out; omega)] at hC
        have hyl2 := HYL.out
        obtain ⟨p0, p1_, p2, p3, p4⟩ := fm_cells hC.k3
        obtain ⟨z0, z1, z2, z3, z4⟩ := fm_cells hC.k2
        obtain ⟨f0, f1, f2, f3, f4⟩ := fm_free hC.k2
        have hn1 : w1.heap.size ≠ w.heap.size + 1 := by have := hC.h3; omega
        have hn2 : w.heap.size + 1 ≠ w1.heap.size := fun e => hn1 e.symm
        obtain ⟨st1, st2, st3⟩ := st5 hC.k2 (.int .i64 x.f0) (.string x.f1) (.int .i64 x.f2) (.slice D3 y3.length e3) (.slice J4 x.f4.length q4)
        have HN := Lib.hid (hC.newF st2)
        have hdr := hC.dr.put5 (b := w.heap.size + 1) (by omega) (.int .i64 x.f0) (.string x.f1) (.int .i64 x.f2) (.slice D3 y3.length e3) (.slice J4 x.f4.length q4)
        rw [HPN.out] at hdr
        have HB := Lib.hid hdr
        clear hC HO st1 st2 st3 hdr hyl2
        go_wp2_with fail
        refine bodyPost_ret (v := .agg #[.int .i64 x.f0, .string x.f1, .int .i64 x.f2, .slice D3 y3.length e3, .slice J4 x.f4.length q4]) (by simp [results, Try.results64, go_sem, z0, z1, z2, z3, z4]) rfl ?_
        exact ⟨_, _, rfl, HN.out, HB.out.is, HB.out.b, HB.out.kp⟩
end Go.Proofs.Ytcbomlmlindjdaa
end
section
namespace Go.Proofs.Ytcbomlmlindjdaa
open Go.RowKit Go.Proofs.YtcbomlmlindjdaaW.PrintWords
set_option linter.unusedVariables false
set_option linter.unusedSimpArgs false
/-- What l1Dress keeps of a form, and what it gives to a name. -/
structure Drs (x y : Fm) : Prop where
  f0 : y.f0 = x.f0
  f1 : y.f1 = x.f1
  f2 : y.f2 = x.f2
  f3 : x.f0 = 1 → y.f3 ∈ sets7
  f4 : x.f4 = [] → y.f4 = []
def DressEx (s : List Int) (x : Fm) : Prop := ∀ p : Nat, p + x.size ≤ 1000000 → ∃ (y : Fm) (q : Nat), q ≤ p + x.size ∧ y.tot ≤ x.tot + 3 * x.size ∧ y.size = x.size ∧ Drs x y ∧ DressOk s x p y q
theorem dress_list {s : List Int} : ∀ (ks : List Fm), (∀ k, k ∈ ks → DressEx s k) → ∀ p : Nat, p + sizes ks ≤ 1000000 → ∃ (ys : List Fm) (ps : Nat → Nat), ys.length = ks.length ∧ ps 0 = p ∧ ps ks.length ≤ p + sizes ks ∧ totL ys ≤ totL ks + 3 * sizes ks ∧ sizes ys = sizes ks ∧ ∀ (i : Nat) (hi : i < ks.length) (hi2 : i < ys.length), DressOk s ks[i] (ps i) ys[i] (ps (i + 1))
  | [], _, p, _ => ⟨[], fun _ => p, rfl, rfl, by simp [sizes], by simp [totL], rfl, fun i hi => absurd hi (by simp)⟩
  | k :: ks, ih, p, hp => by
    simp only [sizes] at hp
    obtain ⟨y, q, h1, h2, h3, _, h5⟩ := ih k List.mem_cons_self p (by omega)
    obtain ⟨ys, ps, a1, a2, a3, a4, a5, a6⟩ := dress_list ks (fun k' hk => ih k' (List.mem_cons_of_mem _ hk)) q (by omega)
    refine ⟨y :: ys, fun i => match i with | 0 => p | i + 1 => ps i, by simp [a1], rfl, by simp only [List.length_cons, sizes]; omega, by simp only [totL, sizes]; omega, by simp only [sizes]; omega, fun i hi hi2 => ?_⟩
    cases i with
    | zero => simpa [a2] using h5
    | succ i => simpa using a6 i (by simpa using hi) (by simpa using hi2)
theorem sets7_mem {j : Nat} (hj : j < 7) : sets7[j] ∈ sets7 := List.getElem_mem hj
theorem sets7_len : ∀ z, z ∈ sets7 → z.length ≤ 3 := by
  intro z hz
  simp only [sets7, List.mem_cons, List.not_mem_nil, or_false] at hz
  rcases hz with h | h | h | h | h | h | h <;> simp [h]
theorem dress_ex {s : List Int} (hs : Bts s) : ∀ x : Fm, x.tot ≤ 100000 → DressEx s x := by
  intro x
  induction x using Fm.ind with
  | h x ih =>
    intro ht p hp
    have hsz := x.size_eq
    have htt := x.tot_eq
    obtain ⟨v, hv, hpick⟩ := ev_pick hs p (by omega) 7 (by omega)
    obtain ⟨j, rfl⟩ := Int.eq_ofNat_of_zero_le (hv (by omega)).1
    have hj : j < 7 := by have := (hv (by omega)).2; omega
    have hp1 : (if x.f0 = 1 then p + 1 else p) ≤ p + 1 := by split <;> omega
    obtain ⟨ys, ps, a1, a2, a3, a4, a5, a6⟩ := dress_list x.f4 (fun k hk => ih k hk (by have := totL_mem hk; omega)) (if x.f0 = 1 then p + 1 else p) (by omega)
    have h7 := sets7_len _ (sets7_mem hj)
    have hy3 : (if x.f0 = 1 then sets7[j] else x.f3).length ≤ x.f3.length + 3 := by split <;> omega
    refine ⟨⟨x.f0, x.f1, x.f2, if x.f0 = 1 then sets7[j] else x.f3, ys⟩, ps x.f4.length, by omega, ?_, ?_, ⟨rfl, rfl, rfl, fun h => ?_, fun h => ?_⟩, ?_⟩
    · rw [Fm.tot_eq]; dsimp only; omega
    · rw [Fm.size_eq]; dsimp only; omega
    · dsimp only; rw [if_pos h]; exact sets7_mem hj
    · dsimp only; rw [h] at a1; exact List.eq_nil_of_length_eq_zero (by simpa using a1)
    · exact dress_walk x p _ _ j hj _ ys ps ht hpick rfl rfl a1 a2 rfl a6
end Go.Proofs.Ytcbomlmlindjdaa
end
section
namespace Go.Proofs.Ytcbomlmlindjdaa
open Go.RowKit Go.Proofs.YtcbomlmlindjdaaW.PrintWords Go.Proofs.YtcbomlmlindjdaaW.PrintLast Go.Proofs.YtcbomlmlindjdaaW.PrintMore
set_option linter.unusedVariables false
set_option linter.unusedSimpArgs false
theorem reads_strs {W : World} {b : Nat} {cs : Array Value} {l : List ByteArray} (hb : W.heap[b]? = some (.cells cs 9 (0, 0))) (hl : l.length ≤ 1000) (hcs : cs.toList = l.map Value.string) : Kd.string.C W (some ⟨b, 0, none⟩) l.length l := by
  refine Kd.C_of_reads (d := ByteArray.empty) (h1 := fun _ => rfl) ⟨rfl, by omega, fun hn => ⟨⟨b, 0, none⟩, rfl, fun i hi => ?_⟩⟩
  rw [add_plain, blk_cell hb i]
  have h9 := congrArg (fun z => z[i]?) hcs
  simp only [Array.getElem?_toList, List.getElem?_map] at h9
  rw [h9, List.getElem?_eq_getElem hi, List.getD_eq_getElem?_getD, List.getElem?_eq_getElem hi]
  rfl
abbrev badNms : List ByteArray := [(⟨#[]⟩ : ByteArray), (⟨#[65]⟩ : ByteArray), (⟨#[116, 111, 111, 108, 111, 110, 103, 97, 110, 97, 109, 101, 49]⟩ : ByteArray), (⟨#[122]⟩ : ByteArray), (⟨#[120, 32, 121]⟩ : ByteArray)]
def MutOk (s : List Int) (x : Fm) (p : Nat) (y : Fm) (q : Nat) : Prop := ∀ (g : Nat) (A3 : Option Addr) (c3 : Nat) (A4 : Option Addr) (c4 : Nat) (w0 w : World), IsRd w0 w g s (p : Int) → Below w0.heap.size w0 w → FmIn w x A3 c3 A4 c4 →
  Calls Try.prog 80 #[.pointer (some ⟨g, 0, none⟩), .agg #[.int .i64 x.f0, .string x.f1, .int .i64 x.f2, .slice A3 x.f3.length c3, .slice A4 x.f4.length c4]] w (DrPost w0 g s (q : Int) y w)
set_option maxHeartbeats 4000000 in
set_option maxRecDepth 100000 in
theorem mut_rec {s : List Int} (x : Fm) (p q : Nat) (v : Int) (i : Nat) (y : Fm) (ht : x.tot ≤ 200000) (hlt : i < x.f4.length) (hv : 0 < v) (h2 : Ev (fun k => Q.spec_l15Rd_pick.f k s (p : Int) 2) (v, ((p + 1 : Nat) : Int))) (hk : Ev (fun k => Q.spec_l15Rd_pick.f k s ((p + 1 : Nat) : Int) (x.f4.length : Int)) ((i : Int), ((p + 2 : Nat) : Int))) (hm : MutOk s x.f4[i] (p + 2) y q) : MutOk s x p ⟨x.f0, x.f1, x.f2, x.f3, x.f4.take i ++ y :: x.f4.drop (i + 1)⟩ q := by
  obtain ⟨ka, hka⟩ := h2.rounds
  obtain ⟨kb, hkb⟩ := hk.rounds
  have HKA := Lib.hid hka
  have HKB := Lib.hid hkb
  have HM := Lib.hid hm
  have HV := Lib.hid hv
  clear h2 hk hka hkb hm hv
  intro g A3 c3 A4 c4 w0 w hi hb hin
  have hmax := hin.g4.2.1
  have HI := Lib.hid hin
  have HD0 := Lib.hid (Dr.new hi hb)
  have HT := Lib.hid ht
  have hlen := len_totL x.f4
  have hxt := x.tot_eq
  have HLN := Lib.hid (show x.f4.length ≤ 200000 by omega)
  have HL3 := Lib.hid (show x.f3.length ≤ 200000 by omega)
  clear hin hi hb ht hlen hxt
  go_enter Try.func80, Try.ntmps80
  go_wp2_with fail
  refine (l1Copy_any x A3 c3 A4 c4 _ (HI.out.below (below_step (below_new _ _) (below_new _ _))) (by have := HT.out; omega)).mono ?_
  rintro e w1 ⟨u3, u4, rfl, hn, hb1⟩
  obtain ⟨J3, q3, J4, q4, rfl, rfl⟩ : ∃ J3 q3 J4 q4, u3 = .slice J3 x.f3.length q3 ∧ u4 = .slice J4 x.f4.length q4 := by
    obtain ⟨fk, hk2, _⟩ := hn
    obtain ⟨J3, q3, J4, q4, e3, e4, _⟩ := hk2.In
    exact ⟨J3, q3, J4, q4, e3, e4⟩
  obtain ⟨k1, k2, b1⟩ := two_new hb1
  rw [show ((w.alloc (.cells #[.int .i64 x.f0, .string x.f1, .int .i64 x.f2, .slice A3 x.f3.length c3, .slice A4 x.f4.length c4] 30)).alloc (.cells #[.int .i64 0, .string ⟨#[]⟩, .int .i64 0, .slice none 0 0, .slice none 0 0] 30)).heap.size = w.heap.size + 2 from by simp] at hn
  obtain ⟨inner, fp, hdp⟩ := Dp.start (HD0.out.later b1) k1 k2 hn
  have HDP := Lib.hid hdp
  clear hb1 hn k1 k2 b1 hdp
  have t1 : decide ((x.f4.length : Int) > 0) = true := decide_eq_true (by omega)
  have t1' : decide (0 < x.f4.length) = true := decide_eq_true (by omega)
  have t2 : decide (v > 0) = true := decide_eq_true HV.out
  go_wp2_with fail
  refine (Q.spec_l15Rd_pick.calls ka g s _ 2 v _ w0 _ HDP.out.dr.is HDP.out.dr.b HKA.out).mono ?_
  rintro e w2 ⟨rfl, hi, hb, hk⟩
  have hw2 := Lib.hid (HDP.out.call hi hb hk)
  clear hi hb hk
  have z4 := (fm_cells hw2.out.k3).2.2.2.2
  go_wp2_with fail
  refine (Q.spec_l15Rd_pick.calls kb g s _ (x.f4.length : Int) (i : Int) _ w0 _ hw2.out.dr.is hw2.out.dr.b HKB.out).mono ?_
  rintro e w3 ⟨rfl, hi, hb, hk⟩
  have hw3 := Lib.hid (hw2.out.call hi hb hk)
  clear hi hb hk
  obtain ⟨gr, cap, e, hgr0, hgr1⟩ := hw3.out.o4.form (by omega)
  obtain ⟨rfl, rfl⟩ : J4 = some ⟨gr, 0, none⟩ ∧ q4 = cap := by injection e with e1 _ e2; exact ⟨e1, e2⟩
  clear e
  have hdr : x.f4 = x.f4.take i ++ x.f4[i] :: x.f4.drop (i + 1) := by rw [← List.drop_eq_getElem_cons hlt, List.take_append_drop]
  have htr := hw3.out.tr
  obtain ⟨ia, ib0, fa, fb0, hin1, hfp1, hta, htb0⟩ := TrL.split (x.f4.take i) (b := x.f4[i] :: x.f4.drop (i + 1)) (by rw [← hdr]; exact htr)
  obtain ⟨z3, z4', ib, fx, fb, rfl, rfl, htx, htb⟩ := TrL.cons_inv htb0
  subst hin1 hfp1
  have hla := hta.len
  rw [List.length_take, Nat.min_eq_left (by omega)] at hla
  obtain ⟨G3, m3, G4, m4, rfl, rfl, hkin⟩ := htx.In
  have HDRX := Lib.hid hdr
  have HTA := Lib.hid hta
  have HTB := Lib.hid htb
  have HLA := Lib.hid hla
  have HKIN := Lib.hid hkin
  have SK := Lib.hid (fun (W : World) (q' : Int) (h : Dp w0 w g s q' (.cells #[.int .i64 x.f0, .string x.f1, .int .i64 x.f2, .slice A3 x.f3.length c3, .slice A4 x.f4.length c4] 30) (.cells #[.int .i64 0, .string ⟨#[]⟩, .int .i64 0, .slice none 0 0, .slice none 0 0] 30) w1.heap.size x.f0 x.f1 x.f2 x.f3 x.f4 (.slice J3 x.f3.length q3) (.slice (some ⟨gr, 0, none⟩) x.f4.length q4) (ia ++ ([.int .i64 x.f4[i].f0, .string x.f4[i].f1, .int .i64 x.f4[i].f2, .slice G3 x.f4[i].f3.length m3, .slice G4 x.f4[i].f4.length m4] ++ ib)) (fa ++ (fx ++ fb)) W) => (⟨(fm_cells h.k3).2.2.2.2, (row_put h.o4 hla).1⟩ : (fun W : World => W.cell? ⟨w1.heap.size, 4, none⟩ = some (.slice (some ⟨gr, 0, none⟩) x.f4.length q4) ∧ W.cell? ⟨gr, i * 5, none⟩ = some (.int .i64 x.f4[i].f0) ∧ W.cell? ⟨gr, i * 5 + 1, none⟩ = some (.string x.f4[i].f1) ∧ W.cell? ⟨gr, i * 5 + 2, none⟩ = some (.int .i64 x.f4[i].f2) ∧ W.cell? ⟨gr, i * 5 + 3, none⟩ = some (.slice G3 x.f4[i].f3.length m3) ∧ W.cell? ⟨gr, i * 5 + 4, none⟩ = some (.slice G4 x.f4[i].f4.length m4)) W))
  have hp4 := (SK.out _ _ hw3.out).1
  have s1 : (0 : Int) ≤ (i : Int) := by omega
  have s2 : (i : Int) < (x.f4.length : Int) := by omega
  clear hdr htr hta htb htb0 htx hla hkin hgr0 hgr1 z4 HDP hw2
  go_wp2_with fail
  have HD := Lib.hid (hw3.out.later (below_drew (Below.refl _ _)))
  have HKD := Lib.hid (HKIN.out.below (below_drew (Below.refl _ _)))
  have HDK := Lib.hid (fun b (hb : b < w3.heap.size) => (below_drew (Below.refl w3.heap.size w3)).block b hb)
  refine start_ (n := 12) (S := (fun W : World => W.cell? ⟨w1.heap.size, 4, none⟩ = some (.slice (some ⟨gr, 0, none⟩) x.f4.length q4) ∧ W.cell? ⟨gr, i * 5, none⟩ = some (.int .i64 x.f4[i].f0) ∧ W.cell? ⟨gr, i * 5 + 1, none⟩ = some (.string x.f4[i].f1) ∧ W.cell? ⟨gr, i * 5 + 2, none⟩ = some (.int .i64 x.f4[i].f2) ∧ W.cell? ⟨gr, i * 5 + 3, none⟩ = some (.slice G3 x.f4[i].f3.length m3) ∧ W.cell? ⟨gr, i * 5 + 4, none⟩ = some (.slice G4 x.f4[i].f4.length m4))) (ds := [11]) #[false, false, false, false, false, false, false, false, false, false, false, false] (by kernel_rfl) rfl rfl (SK.out _ _ HD.out) (fun hHeld => ?_)
  clear hp4
  generalize w3.drew = wd at HD HKD HDK hHeld ⊢
  refine pure_ (i := 0) (N := some 23) (v := ?_) (a' := ?_) #[true, false, false, false, false, false, false, false, false, false, false, false] rfl rfl (by kernel_rfl) (fun _ _ _ h => h) (Or.inl ⟨by rfl, ?_⟩) ?_ ?_
  rotate_left
  · intro w'
    go_simp
    with_reducible rfl
  rotate_left
  · simp only [Act.put, List.setIfInBounds_toArray, List.set_cons_zero, List.set_cons_succ, i64_w, i32_w]
    rfl
  refine pure_ (i := 2) (N := some 25) (v := ?_) (a' := ?_) #[true, false, true, false, false, false, false, false, false, false, false, false] rfl rfl (by kernel_rfl) (fun _ _ _ h => h) (Or.inl ⟨by rfl, ?_⟩) ?_ ?_
  rotate_left
  · intro w'
    go_simp
    with_reducible rfl
  rotate_left
  · simp only [Act.put, List.setIfInBounds_toArray, List.set_cons_zero, List.set_cons_succ, i64_w, i32_w]
    rfl
  refine pure_ (i := 3) (N := some 26) (v := ?_) (a' := ?_) #[true, false, true, true, false, false, false, false, false, false, false, false] rfl rfl (by kernel_rfl) (fun _ _ _ h => h) (Or.inl ⟨by rfl, ?_⟩) ?_ ?_
  rotate_left
  · intro w'
    go_simp
    with_reducible rfl
  rotate_left
  · simp only [Act.put, List.setIfInBounds_toArray, List.set_cons_zero, List.set_cons_succ, i64_w, i32_w]
    rfl
  refine pure_ (i := 4) (N := some 27) (v := ?_) (a' := ?_) #[true, false, true, true, true, false, false, false, false, false, false, false] rfl rfl (by kernel_rfl) (fun _ _ _ h => h) (Or.inl ⟨by rfl, ?_⟩) ?_ ?_
  rotate_left
  · intro w'
    go_simp
    with_reducible rfl
  rotate_left
  · simp only [Act.put, List.setIfInBounds_toArray, List.set_cons_zero, List.set_cons_succ, i64_w, i32_w]
    rfl
  refine pure_ (i := 6) (N := some 29) (v := ?_) (a' := ?_) #[true, false, true, true, true, false, true, false, false, false, false, false] rfl rfl (by kernel_rfl) (fun _ _ _ h => h) (Or.inl ⟨by rfl, ?_⟩) ?_ ?_
  rotate_left
  · intro w'
    go_simp
    with_reducible rfl
  rotate_left
  · simp only [Act.put, List.setIfInBounds_toArray, List.set_cons_zero, List.set_cons_succ, i64_w, i32_w]
    rfl
  refine take_ (i := 1) (N := some 24) (v := ?_) (a' := ?_) #[true, true, true, true, true, false, true, false, false, false, false, false] rfl rfl (by kernel_rfl) (fun _ _ _ h => h) (Or.inl ⟨by rfl, ?_⟩) hHeld ?_ ?_
  rotate_left
  · rintro w' ⟨s0, e0, e1, e2, e3_, e4⟩
    go_simp
    with_reducible rfl
  rotate_left
  · simp only [Act.put, List.setIfInBounds_toArray, List.set_cons_zero, List.set_cons_succ, i64_w, i32_w]
    rfl
  refine take_ (i := 5) (N := some 28) (v := ?_) (a' := ?_) #[true, true, true, true, true, true, true, false, false, false, false, false] rfl rfl (by kernel_rfl) (fun _ _ _ h => h) (Or.inl ⟨by rfl, ?_⟩) hHeld ?_ ?_
  rotate_left
  · rintro w' ⟨s0, e0, e1, e2, e3_, e4⟩
    go_simp
    with_reducible rfl
  rotate_left
  · simp only [Act.put, List.setIfInBounds_toArray, List.set_cons_zero, List.set_cons_succ, i64_w, i32_w]
    rfl
  refine pure_ (i := 7) (N := some 30) (v := ?_) (a' := ?_) #[true, true, true, true, true, true, true, true, false, false, false, false] rfl rfl (by kernel_rfl) (fun _ _ _ h => h) (Or.inl ⟨by rfl, ?_⟩) ?_ ?_
  rotate_left
  · intro w'
    go_simp
    with_reducible rfl
  rotate_left
  · simp only [Act.put, List.setIfInBounds_toArray, List.set_cons_zero, List.set_cons_succ, i64_w, i32_w]
    rfl
  refine take_ (i := 8) (N := some 31) (v := ?_) (a' := ?_) #[true, true, true, true, true, true, true, true, true, false, false, false] rfl rfl (by kernel_rfl) (fun _ _ _ h => h) (Or.inl ⟨by rfl, ?_⟩) hHeld ?_ ?_
  rotate_left
  · rintro w' ⟨s0, e0, e1, e2, e3_, e4⟩
    go_simp
    with_reducible rfl
  rotate_left
  · simp only [Act.put, List.setIfInBounds_toArray, List.set_cons_zero, List.set_cons_succ, i64_w, i32_w]
    rfl
  refine one_ (i := 9) (N := some 32) #[true, true, true, true, true, true, true, true, true, true, false, false] rfl rfl (by kernel_rfl) (by decide) (fun K hK => ?_)
  refine goes_ Try.func80 (by kernel_rfl) rfl #[.pointer (some ⟨g, 0, none⟩), .agg #[.int .i64 x.f4[i].f0, .string x.f4[i].f1, .int .i64 x.f4[i].f2, .slice G3 x.f4[i].f3.length m3, .slice G4 x.f4[i].f4.length m4]] (by rfl) rfl rfl (by (try simp only [List.map_toArray, List.map_cons, List.map_nil]); first | done | rfl) ?_
  refine (HM.out g G3 m3 G4 m4 w0 wd HD.out.dr.is HD.out.dr.b HKD.out).mono ?_
  rintro e w7 ⟨u3, u4, rfl, hn, hi7, hb7, hk7⟩
  refine ⟨_, rfl, ?_⟩
  obtain ⟨U3, n3_, U4, n4_, rfl, rfl⟩ : ∃ U3 n3 U4 n4, u3 = .slice U3 y.f3.length n3 ∧ u4 = .slice U4 y.f4.length n4 := by
    obtain ⟨fk, hk2, _⟩ := hn
    obtain ⟨J3, q3, J4, q4, e3, e4, _⟩ := hk2.In
    exact ⟨J3, q3, J4, q4, e3, e4⟩
  have H7 := Lib.hid (HD.out.call hi7 hb7 hk7)
  have HN := Lib.hid hn
  have HK7 := Lib.hid hk7
  clear hn hi7 hb7 hk7
  refine hK.out _ _ (SK.out _ _ H7.out) (fun hHeld => ?_)
  clear hK K
  refine norm_ (a' := ?_) ?_ ?_
  rotate_left
  · show Act.put _ (some 32) _ = _
    simp only [Act.put, List.setIfInBounds_toArray, List.set_cons_zero, List.set_cons_succ, i64_w, i32_w]
    rfl
  refine pure_ (i := 10) (N := some 33) (v := ?_) (a' := ?_) #[true, true, true, true, true, true, true, true, true, true, true, false] rfl rfl (by kernel_rfl) (fun _ _ _ h => h) (Or.inl ⟨by rfl, ?_⟩) ?_ ?_
  rotate_left
  · intro w'
    go_simp
    with_reducible rfl
  rotate_left
  · simp only [Act.put, List.setIfInBounds_toArray, List.set_cons_zero, List.set_cons_succ, i64_w, i32_w]
    rfl
  refine last_ (i := 11) (N := none) #[true, true, true, true, true, true, true, true, true, true, true, true] rfl rfl (by kernel_rfl) (by decide) (fun K hK => ?_)
  obtain ⟨_, z0, z1, z2, z3, z4⟩ := SK.out _ _ H7.out
  have hfz := (row_put H7.out.o4 HLA.out).2.1
  have f0 := hfz (i * 5)
  have f1 := hfz (i * 5 + 1)
  have f2 := hfz (i * 5 + 2)
  have f3 := hfz (i * 5 + 3)
  have f4 := hfz (i * 5 + 4)
  clear hfz
  have hla2 : (x.f4.take i).length = i := by simp; omega
  have hltd := HD.out.lt
  obtain ⟨fp', hC7⟩ := H7.out.kid (B := wd.heap.size) rfl HDRX.out rfl rfl (HTA.out.move _ (fun b hb => by have hl := hw3.out.lt b (by simp [hb]); have hge := hw3.out.ge b (by simp [hb]); have hg0 := hw3.out.dr.lt; rw [HK7.out.2 b (by have := HD.out.lt b (by simp [hb]); omega) (by omega) (by simp)]; exact HDK.out b hl)) (HTB.out.move _ (fun b hb => by have hl := hw3.out.lt b (by simp [hb]); have hge := hw3.out.ge b (by simp [hb]); have hg0 := hw3.out.dr.lt; rw [HK7.out.2 b (by have := HD.out.lt b (by simp [hb]); omega) (by omega) (by simp)]; exact HDK.out b hl)) hltd HD.out.lts.2 HD.out.lts.1 HN.out
  rw [hla2] at hC7
  have HC7 := Lib.hid hC7
  clear hC7 hla2 hltd
  refine skip_ (w1 := ?_) (by rfl) rfl ?_ ?_
  rotate_left
  · go_simp
    rfl
  refine hK.out _ _ ?_
  clear hK K
  clear z0 z1 z2 z3 z4 f0 f1 f2 f3 f4
  refine done_ (by kernel_rfl) ?_
  have hC := HC7.out
  obtain ⟨p0, p1_, p2, p3, p4⟩ := fm_cells hC.k3
  obtain ⟨z0, z1, z2, z3, z4⟩ := fm_cells hC.k2
  obtain ⟨f0, f1, f2, f3, f4⟩ := fm_free hC.k2
  have hn1 : w1.heap.size ≠ w.heap.size + 1 := by have := hC.h3; omega
  have hn2 : w.heap.size + 1 ≠ w1.heap.size := fun e => hn1 e.symm
  have hl9 : (x.f4.take i ++ y :: x.f4.drop (i + 1)).length = x.f4.length := by simp; omega
  obtain ⟨st1, st2, st3⟩ := st5 HC7.out.k2 (.int .i64 x.f0) (.string x.f1) (.int .i64 x.f2) (.slice J3 x.f3.length q3) (.slice (some ⟨gr, 0, none⟩) x.f4.length q4)
  have HN := Lib.hid (HC7.out.newF st2)
  have HB := Lib.hid (HC7.out.dr.put5 (b := w.heap.size + 1) (by omega) (.int .i64 x.f0) (.string x.f1) (.int .i64 x.f2) (.slice J3 x.f3.length q3) (.slice (some ⟨gr, 0, none⟩) x.f4.length q4))
  clear st1 st2 st3
  have HL9 := Lib.hid hl9
  clear hC hl9
  go_wp2_with fail
  refine bodyPost_ret (v := .agg #[.int .i64 x.f0, .string x.f1, .int .i64 x.f2, .slice J3 x.f3.length q3, .slice (some ⟨gr, 0, none⟩) x.f4.length q4]) (by simp [results, Try.results80, go_sem, z0, z1, z2, z3, z4]) rfl ?_
  exact ⟨_, _, rfl, HN.out, HB.out.is, HB.out.b, HB.out.kp⟩
set_option maxHeartbeats 8000000 in
set_option maxRecDepth 100000 in
theorem mut_stop {s : List Int} (x : Fm) (p p1 q : Nat) (c : Int) (y : Fm) (ht : x.tot ≤ 200000)
    (hp1 : (x.f4 = [] ∧ p1 = p) ∨ (x.f4 ≠ [] ∧ p1 = p + 1 ∧ ∃ v : Int, v ≤ 0 ∧ Ev (fun k => Q.spec_l15Rd_pick.f k s (p : Int) 2) (v, ((p + 1 : Nat) : Int)))) (hc : Ev (fun k => Q.spec_l15Rd_pick.f k s (p1 : Int) 14) (c, ((p1 + 1 : Nat) : Int)))
    (h0 : c = 0 → ∃ n : Int, Ev (fun k => Q.spec_l15Rd_num.f k s ((p1 + 1 : Nat) : Int) [0, 4, 1, 3]) (n, ((p1 + 2 : Nat) : Int)) ∧ y = ⟨n, x.f1, x.f2, x.f3, x.f4⟩ ∧ q = p1 + 2)
    (h1 : c = 1 → ∃ n : ByteArray, Ev (fun k => Q.spec_l15Rd_of.f k s ((p1 + 1 : Nat) : Int) badNms) (n, ((p1 + 2 : Nat) : Int)) ∧ y = ⟨x.f0, n, x.f2, x.f3, x.f4⟩ ∧ q = p1 + 2)
    (h2 : c = 2 → ∃ n : Int, Ev (fun k => Q.spec_l15Rd_num.f k s ((p1 + 1 : Nat) : Int) [1000, -1, 5]) (n, ((p1 + 2 : Nat) : Int)) ∧ y = ⟨x.f0, x.f1, n, x.f3, x.f4⟩ ∧ q = p1 + 2)
    (h3 : c = 3 → ∃ n : Int, Ev (fun k => Q.spec_l15Rd_num.f k s ((p1 + 1 : Nat) : Int) [0, 100, 1, 50]) (n, ((p1 + 2 : Nat) : Int)) ∧ y = ⟨x.f0, x.f1, x.f2, x.f3 ++ [n], x.f4⟩ ∧ q = p1 + 2)
    (h4 : c ≠ 0 → c ≠ 1 → c ≠ 2 → c ≠ 3 → y = ⟨x.f0, x.f1, x.f2, x.f3, x.f4⟩ ∧ q = p1 + 1) : MutOk s x p y q := by
  obtain ⟨kc, hkc⟩ := hc.rounds
  have HKC := Lib.hid hkc
  have HP1 := Lib.hid hp1
  have H0 := Lib.hid h0
  have H1 := Lib.hid h1
  have H2 := Lib.hid h2
  have HS3 := Lib.hid h3
  have H4 := Lib.hid h4
  clear hc hkc hp1 h0 h1 h2 h3 h4
  intro g A3 c3 A4 c4 w0 w hi hb hin
  have hmax := hin.g4.2.1
  have HI := Lib.hid hin
  have HD0 := Lib.hid (Dr.new hi hb)
  have HT := Lib.hid ht
  have hlen := len_totL x.f4
  have hxt := x.tot_eq
  have HLN := Lib.hid (show x.f4.length ≤ 200000 by omega)
  have HL3 := Lib.hid (show x.f3.length ≤ 200000 by omega)
  clear hin hi hb ht hlen hxt
  go_enter Try.func80, Try.ntmps80
  go_wp2_with fail
  refine (l1Copy_any x A3 c3 A4 c4 _ (HI.out.below (below_step (below_new _ _) (below_new _ _))) (by have := HT.out; omega)).mono ?_
  rintro e w1 ⟨u3, u4, rfl, hn, hb1⟩
  obtain ⟨J3, q3, J4, q4, rfl, rfl⟩ : ∃ J3 q3 J4 q4, u3 = .slice J3 x.f3.length q3 ∧ u4 = .slice J4 x.f4.length q4 := by
    obtain ⟨fk, hk2, _⟩ := hn
    obtain ⟨J3, q3, J4, q4, e3, e4, _⟩ := hk2.In
    exact ⟨J3, q3, J4, q4, e3, e4⟩
  obtain ⟨k1, k2, b1⟩ := two_new hb1
  rw [show ((w.alloc (.cells #[.int .i64 x.f0, .string x.f1, .int .i64 x.f2, .slice A3 x.f3.length c3, .slice A4 x.f4.length c4] 30)).alloc (.cells #[.int .i64 0, .string ⟨#[]⟩, .int .i64 0, .slice none 0 0, .slice none 0 0] 30)).heap.size = w.heap.size + 2 from by simp] at hn
  obtain ⟨inner, fp, hdp⟩ := Dp.start (HD0.out.later b1) k1 k2 hn
  have HDP := Lib.hid hdp
  clear hb1 hn k1 k2 b1 hdp
  go_upto_region 2 with fail
  (try simp only [Act.put, List.setIfInBounds_toArray, List.set_cons_zero, List.set_cons_succ])
  go_cut [17] (fun v17 wc => ∃ (inner : List Value) (fp : List Nat), v17 = .bool false ∧ Aside0 (Dp w0 w g s (p1 : Int) (.cells #[.int .i64 x.f0, .string x.f1, .int .i64 x.f2, .slice A3 x.f3.length c3, .slice A4 x.f4.length c4] 30) (.cells #[.int .i64 0, .string ⟨#[]⟩, .int .i64 0, .slice none 0 0, .slice none 0 0] 30) w1.heap.size x.f0 x.f1 x.f2 x.f3 x.f4 (.slice J3 x.f3.length q3) (.slice J4 x.f4.length q4) inner fp wc))
  case first =>
    rcases HP1.out with ⟨he, ep⟩ | ⟨he, ep, v, hv, h2⟩
    · have t1 : decide ((x.f4.length : Int) > 0) = false := decide_eq_false (by rw [he]; simp)
      have t1' : decide (0 < x.f4.length) = false := decide_eq_false (by rw [he]; simp)
      have HEP := Lib.hid ep
      clear he ep
      go_wp2_with fail
      go_meet
      case rel => exact ⟨inner, fp, rfl, ⟨by rw [HEP.out]; exact HDP.out⟩⟩
    · have t1 : decide ((x.f4.length : Int) > 0) = true := decide_eq_true (by have := List.length_pos_iff.2 he; omega)
      have t1' : decide (0 < x.f4.length) = true := decide_eq_true (List.length_pos_iff.2 he)
      have t2 : decide (v > 0) = false := decide_eq_false (by omega)
      have t2' : decide (0 < v) = false := decide_eq_false (by omega)
      obtain ⟨ka, hka⟩ := h2.rounds
      have HKA := Lib.hid hka
      have HEP := Lib.hid ep
      clear he ep hv h2 hka
      go_wp2_with fail
      refine (Q.spec_l15Rd_pick.calls ka g s _ 2 v _ w0 _ HDP.out.dr.is HDP.out.dr.b HKA.out).mono ?_
      rintro e w2 ⟨rfl, hi, hb, hk⟩
      have hw2 := Lib.hid (HDP.out.call hi hb hk)
      clear hi hb hk
      go_wp2_with fail
      go_meet
      case rel => exact ⟨inner, fp, rfl, ⟨by rw [HEP.out]; exact hw2.out⟩⟩
  case rest =>
    clear HDP inner fp
    obtain ⟨inner, fp, rfl, HDP⟩ := hcut
    go_wp2_with fail
    refine (Q.spec_l15Rd_pick.calls kc g s _ 14 c _ w0 _ HDP.out.dr.is HDP.out.dr.b HKC.out).mono ?_
    rintro e w3 ⟨rfl, hi, hb, hk⟩
    have hw3 := Lib.hid (HDP.out.call hi hb hk)
    clear hi hb hk
    by_cases c0 : c = 0
    · subst c0
      obtain ⟨n, hn, rfl, rfl⟩ := H0.out rfl
      obtain ⟨kn, hkn⟩ := hn.rounds
      have HKN := Lib.hid hkn
      clear hn hkn
      go_wp2_with fail
      have hblk := blk_new w3 (.cells #[.int .i64 0, .int .i64 4, .int .i64 1, .int .i64 3] 3 (0, 0))
      have HRB := Lib.hid (reads_block (l := [0, 4, 1, 3]) hblk (by simp) rfl)
      have HNE := Lib.hid (show w3.heap.size ≠ g from by have := hw3.out.dr.lt; have := hw3.out.lts; omega)
      clear hblk
      refine (Q.spec_l15Rd_num.calls kn g s _ (some ⟨w3.heap.size, 0, none⟩) _ [0, 4, 1, 3] n _ w0 _ (hw3.out.dr.later (below_new _ _)).is (hw3.out.dr.later (below_new _ _)).b HRB.out (Nat.le_refl _) (fun ad e _ => by cases e; exact HNE.out) HKN.out).mono ?_
      rintro e w4 ⟨rfl, hi, hb, hk⟩
      have hw4 := Lib.hid ((hw3.out.later (below_new _ _)).call hi hb hk)
      have HC7 := Lib.hid (hw4.out.put (j := 0) (u := .int .i64 n) (by simpa using blk_set hw4.out.k3 0 (.int .i64 n)))
      clear hi hb hk
      have hC := hw4.out
      obtain ⟨p0, p1_, p2, p3, p4⟩ := fm_cells hC.k3
      obtain ⟨o0, o1, o2, o3, o4⟩ := fm_free hC.k3
      obtain ⟨z0, z1, z2, z3, z4⟩ := fm_cells hC.k2
      obtain ⟨f0, f1, f2, f3, f4⟩ := fm_free hC.k2
      have hn1 : w1.heap.size ≠ w.heap.size + 1 := by have := hC.h3; omega
      have hn2 : w.heap.size + 1 ≠ w1.heap.size := fun e => hn1 e.symm
      clear hC
      obtain ⟨st1, st2, st3⟩ := st5 HC7.out.k2 (.int .i64 n) (.string x.f1) (.int .i64 x.f2) (.slice J3 x.f3.length q3) (.slice J4 x.f4.length q4)
      have HN := Lib.hid (HC7.out.newF st2)
      have HB := Lib.hid (HC7.out.dr.put5 (b := w.heap.size + 1) (by omega) (.int .i64 n) (.string x.f1) (.int .i64 x.f2) (.slice J3 x.f3.length q3) (.slice J4 x.f4.length q4))
      clear st1 st2 st3
      go_wp2_with fail
      refine bodyPost_ret (v := .agg #[.int .i64 n, .string x.f1, .int .i64 x.f2, .slice J3 x.f3.length q3, (.slice J4 x.f4.length q4)]) (by simp [results, Try.results80, go_sem, z0, z1, z2, z3, z4, hn1, hn2]) rfl ?_
      exact ⟨_, _, rfl, HN.out, HB.out.is, HB.out.b, HB.out.kp⟩
    by_cases c1 : c = 1
    · subst c1
      clear c0
      obtain ⟨n, hn, rfl, rfl⟩ := H1.out rfl
      obtain ⟨kn, hkn⟩ := hn.rounds
      have HKN := Lib.hid hkn
      clear hn hkn
      go_wp2_with fail
      have hblk := blk_new w3 (.cells #[.string ⟨#[]⟩, .string ⟨#[65]⟩, .string ⟨#[116, 111, 111, 108, 111, 110, 103, 97, 110, 97, 109, 101, 49]⟩, .string ⟨#[122]⟩, .string ⟨#[120, 32, 121]⟩] 9 (0, 0))
      have HRB := Lib.hid (reads_strs (l := badNms) hblk (by simp) rfl)
      have HNE := Lib.hid (show w3.heap.size ≠ g from by have := hw3.out.dr.lt; have := hw3.out.lts; omega)
      clear hblk
      refine (Q.spec_l15Rd_of.calls kn g s _ (some ⟨w3.heap.size, 0, none⟩) _ badNms n _ w0 _ (hw3.out.dr.later (below_new _ _)).is (hw3.out.dr.later (below_new _ _)).b HRB.out (Nat.le_refl _) (fun ad e _ => by cases e; exact HNE.out) HKN.out).mono ?_
      rintro e w4 ⟨rfl, hi, hb, hk⟩
      have hw4 := Lib.hid ((hw3.out.later (below_new _ _)).call hi hb hk)
      have HC7 := Lib.hid (hw4.out.put (j := 1) (u := .string n) (by simpa using blk_set hw4.out.k3 1 (.string n)))
      clear hi hb hk
      have hC := hw4.out
      obtain ⟨p0, p1_, p2, p3, p4⟩ := fm_cells hC.k3
      obtain ⟨o0, o1, o2, o3, o4⟩ := fm_free hC.k3
      obtain ⟨z0, z1, z2, z3, z4⟩ := fm_cells hC.k2
      obtain ⟨f0, f1, f2, f3, f4⟩ := fm_free hC.k2
      have hn1 : w1.heap.size ≠ w.heap.size + 1 := by have := hC.h3; omega
      have hn2 : w.heap.size + 1 ≠ w1.heap.size := fun e => hn1 e.symm
      clear hC
      obtain ⟨st1, st2, st3⟩ := st5 HC7.out.k2 (.int .i64 x.f0) (.string n) (.int .i64 x.f2) (.slice J3 x.f3.length q3) (.slice J4 x.f4.length q4)
      have HN := Lib.hid (HC7.out.newF st2)
      have HB := Lib.hid (HC7.out.dr.put5 (b := w.heap.size + 1) (by omega) (.int .i64 x.f0) (.string n) (.int .i64 x.f2) (.slice J3 x.f3.length q3) (.slice J4 x.f4.length q4))
      clear st1 st2 st3
      go_wp2_with fail
      refine bodyPost_ret (v := .agg #[.int .i64 x.f0, .string n, .int .i64 x.f2, .slice J3 x.f3.length q3, (.slice J4 x.f4.length q4)]) (by simp [results, Try.results80, go_sem, z0, z1, z2, z3, z4, hn1, hn2]) rfl ?_
      exact ⟨_, _, rfl, HN.out, HB.out.is, HB.out.b, HB.out.kp⟩
    by_cases c2 : c = 2
    · subst c2
      clear c0 c1
      obtain ⟨n, hn, rfl, rfl⟩ := H2.out rfl
      obtain ⟨kn, hkn⟩ := hn.rounds
      have HKN := Lib.hid hkn
      clear hn hkn
      go_wp2_with fail
      have hblk := blk_new w3 (.cells #[.int .i64 1000, .int .i64 (-1), .int .i64 5] 3 (0, 0))
      have HRB := Lib.hid (reads_block (l := [1000, -1, 5]) hblk (by simp) rfl)
      have HNE := Lib.hid (show w3.heap.size ≠ g from by have := hw3.out.dr.lt; have := hw3.out.lts; omega)
      clear hblk
      refine (Q.spec_l15Rd_num.calls kn g s _ (some ⟨w3.heap.size, 0, none⟩) _ [1000, -1, 5] n _ w0 _ (hw3.out.dr.later (below_new _ _)).is (hw3.out.dr.later (below_new _ _)).b HRB.out (Nat.le_refl _) (fun ad e _ => by cases e; exact HNE.out) HKN.out).mono ?_
      rintro e w4 ⟨rfl, hi, hb, hk⟩
      have hw4 := Lib.hid ((hw3.out.later (below_new _ _)).call hi hb hk)
      have HC7 := Lib.hid (hw4.out.put (j := 2) (u := .int .i64 n) (by simpa using blk_set hw4.out.k3 2 (.int .i64 n)))
      clear hi hb hk
      have hC := hw4.out
      obtain ⟨p0, p1_, p2, p3, p4⟩ := fm_cells hC.k3
      obtain ⟨o0, o1, o2, o3, o4⟩ := fm_free hC.k3
      obtain ⟨z0, z1, z2, z3, z4⟩ := fm_cells hC.k2
      obtain ⟨f0, f1, f2, f3, f4⟩ := fm_free hC.k2
      have hn1 : w1.heap.size ≠ w.heap.size + 1 := by have := hC.h3; omega
      have hn2 : w.heap.size + 1 ≠ w1.heap.size := fun e => hn1 e.symm
      clear hC
      obtain ⟨st1, st2, st3⟩ := st5 HC7.out.k2 (.int .i64 x.f0) (.string x.f1) (.int .i64 n) (.slice J3 x.f3.length q3) (.slice J4 x.f4.length q4)
      have HN := Lib.hid (HC7.out.newF st2)
      have HB := Lib.hid (HC7.out.dr.put5 (b := w.heap.size + 1) (by omega) (.int .i64 x.f0) (.string x.f1) (.int .i64 n) (.slice J3 x.f3.length q3) (.slice J4 x.f4.length q4))
      clear st1 st2 st3
      go_wp2_with fail
      refine bodyPost_ret (v := .agg #[.int .i64 x.f0, .string x.f1, .int .i64 n, .slice J3 x.f3.length q3, (.slice J4 x.f4.length q4)]) (by simp [results, Try.results80, go_sem, z0, z1, z2, z3, z4, hn1, hn2]) rfl ?_
      exact ⟨_, _, rfl, HN.out, HB.out.is, HB.out.b, HB.out.kp⟩
    by_cases c3_ : c = 3
    · subst c3_
      clear c0 c1 c2
      obtain ⟨n, hn, rfl, rfl⟩ := HS3.out rfl
      obtain ⟨kn, hkn⟩ := hn.rounds
      have HKN := Lib.hid hkn
      clear hn hkn
      have hp3 := (fm_cells hw3.out.k3).2.2.2.1
      go_wp2_with fail
      have HD := Lib.hid (hw3.out.later (below_drew (Below.refl _ _)))
      refine start_ (n := 9) (S := (fun W : World => W.cell? ⟨w1.heap.size, 3, none⟩ = some (.slice J3 x.f3.length q3))) (ds := [8]) #[false, false, false, false, false, false, false, false, false] (by kernel_rfl) rfl rfl (fm_cells HD.out.k3).2.2.2.1 (fun hHeld => ?_)
      clear hp3
      generalize w3.drew = wd at HD hHeld ⊢
      refine pure_ (i := 0) (N := some 57) (v := ?_) (a' := ?_) #[true, false, false, false, false, false, false, false, false] rfl rfl (by kernel_rfl) (fun _ _ _ h => h) (Or.inl ⟨by rfl, ?_⟩) ?_ ?_
      rotate_left
      · intro w'
        go_simp
        with_reducible rfl
      rotate_left
      · simp only [Act.put, List.setIfInBounds_toArray, List.set_cons_zero, List.set_cons_succ, i64_w, i32_w]
        rfl
      refine pure_ (i := 2) (N := some 59) (v := ?_) (a' := ?_) #[true, false, true, false, false, false, false, false, false] rfl rfl (by kernel_rfl) (fun _ _ _ h => h) (Or.inl ⟨by rfl, ?_⟩) ?_ ?_
      rotate_left
      · intro w'
        go_simp
        with_reducible rfl
      rotate_left
      · simp only [Act.put, List.setIfInBounds_toArray, List.set_cons_zero, List.set_cons_succ, i64_w, i32_w]
        rfl
      refine take_ (i := 1) (N := some 58) (v := ?_) (a' := ?_) #[true, true, true, false, false, false, false, false, false] rfl rfl (by kernel_rfl) (fun _ _ _ h => h) (Or.inl ⟨by rfl, ?_⟩) hHeld ?_ ?_
      rotate_left
      · rintro w' s0
        go_simp
        with_reducible rfl
      rotate_left
      · simp only [Act.put, List.setIfInBounds_toArray, List.set_cons_zero, List.set_cons_succ, i64_w, i32_w]
        rfl
      refine one_ (i := 3) (N := some 60) #[true, true, true, true, false, false, false, false, false] rfl rfl (by kernel_rfl) (by decide) (fun K hK => ?_)
      refine value_ (w1 := ?_) (v := ?_) (by rfl) rfl ?_ ?_
      rotate_left 2
      · go_simp
        constructor
        · rfl
        · rfl
      refine hK.out _ _ (fm_cells (HD.out.later (below_new _ _)).k3).2.2.2.1 (fun hHeld => ?_)
      clear hK K
      refine norm_ (a' := ?_) ?_ ?_
      rotate_left
      · show Act.put _ (some 60) _ = _
        simp only [Act.put, List.setIfInBounds_toArray, List.set_cons_zero, List.set_cons_succ, i64_w, i32_w]
        rfl
      have hblk := blk_new wd (.cells #[.int .i64 0, .int .i64 100, .int .i64 1, .int .i64 50] 3 (0, 0))
      have HRB := Lib.hid (reads_block (l := [0, 100, 1, 50]) hblk (by simp) rfl)
      have HNE := Lib.hid (show wd.heap.size ≠ g from by have := HD.out.dr.lt; have := HD.out.lts; omega)
      clear hblk
      refine one_ (i := 4) (N := some 61) #[true, true, true, true, true, false, false, false, false] rfl rfl (by kernel_rfl) (by decide) (fun K hK => ?_)
      refine goes_ Try.func56 (by kernel_rfl) rfl #[.pointer (some ⟨g, 0, none⟩), .slice (some ⟨wd.heap.size, 0, none⟩) 4 4] (by rfl) rfl rfl (by (try simp only [List.map_toArray, List.map_cons, List.map_nil]); first | done | rfl) ?_
      refine (Q.spec_l15Rd_num.calls kn g s _ (some ⟨wd.heap.size, 0, none⟩) _ [0, 100, 1, 50] n _ w0 _ (HD.out.dr.later (below_new _ _)).is (HD.out.dr.later (below_new _ _)).b HRB.out (Nat.le_refl _) (fun ad e _ => by cases e; exact HNE.out) HKN.out).mono ?_
      rintro e w4 ⟨rfl, hi, hb, hk⟩
      refine ⟨_, rfl, ?_⟩
      have hw4 := Lib.hid ((HD.out.later (below_new _ _)).call hi hb hk)
      clear hi hb hk
      refine hK.out _ _ (fm_cells hw4.out.k3).2.2.2.1 (fun hHeld => ?_)
      clear hK K
      refine norm_ (a' := ?_) ?_ ?_
      rotate_left
      · show Act.put _ (some 61) _ = _
        simp only [Act.put, List.setIfInBounds_toArray, List.set_cons_zero, List.set_cons_succ, i64_w, i32_w]
        rfl
      refine one_ (i := 5) (N := some 62) #[true, true, true, true, true, true, false, false, false] rfl rfl (by kernel_rfl) (by decide) (fun K hK => ?_)
      refine value_ (w1 := ?_) (v := ?_) (by rfl) rfl ?_ ?_
      rotate_left 2
      · go_simp
        constructor
        · rfl
        · rfl
      refine hK.out _ _ (fm_cells (hw4.out.later (below_new _ _)).k3).2.2.2.1 (fun hHeld => ?_)
      clear hK K
      refine norm_ (a' := ?_) ?_ ?_
      rotate_left
      · show Act.put _ (some 62) _ = _
        simp only [Act.put, List.setIfInBounds_toArray, List.set_cons_zero, List.set_cons_succ, i64_w, i32_w]
        rfl
      refine one_ (i := 6) (N := some 63) #[true, true, true, true, true, true, true, false, false] rfl rfl (by kernel_rfl) (by decide) (fun K hK => ?_)
      refine step_append_cells (w0 := w0) (W := w4) w0.heap.size (by rfl) (.tmp 58) (.tmp 62) 27 3 (.int .i64 0) 1 8 rfl Try.underlying27 infoI rfl (by decide) (by omega) (.slice J3 x.f3.length q3) x.f3.length (encI x.f3) [.int .i64 n] rfl rfl rfl (by simp [Value.oneCell']) (own_base_ hw4.out.o3 (fun b hb => by have := (hw4.out.own3 b hb).1; have := keep_size hw4.out.dr.kp; have := HD0.out.b.size; omega)) hw4.out.dr.b hw4.out.dr.b.size (by have := HL3.out; omega) ?_
      intro v' w8 ho hb8 hg8 hat8
      have ho8 : w8.ownsRow 0 3 1 v' (x.f3 ++ [n]).length (encI (x.f3 ++ [n])) := by
        rw [List.length_append, show encI (x.f3 ++ [n]) = encI x.f3 ++ [.int .i64 n] from by simp [encs]]
        exact own_weaken ho (Nat.zero_le _)
      have hdp8 := hw4.out.scopes hg8 (hw4.out.own3) ho8 (fun b hb => by
        rcases hat8 with h | ⟨c, h, hc⟩
        · exact hw4.out.own3 b (h ▸ hb)
        · rw [h] at hb; cases hb; exact hw4.out.fresh hc)
      have hk38 := (hg8.block _ hw4.out.lts.2 (fun e => (hw4.out.own3 _ e.symm).2.1 rfl)).trans hw4.out.k3
      have hv' : ∃ A c, v' = .slice A (x.f3.length + 1) c := by
        rcases ho with ⟨_, ⟨rfl, h0⟩ | ⟨g, cap, cur, rfl, _⟩⟩
        · exact absurd h0 (by omega)
        · exact ⟨_, _, rfl⟩
      obtain ⟨A', c', rfl⟩ := hv'
      have HC7 := Lib.hid hdp8
      have HK38 := Lib.hid hk38
      clear ho hb8 hg8 hat8 ho8 hdp8 hk38
      refine hK.out _ _ (fm_cells HK38.out).2.2.2.1 (fun hHeld => ?_)
      clear hK K
      refine norm_ (a' := ?_) ?_ ?_
      rotate_left
      · show Act.put _ (some 63) _ = _
        simp only [Act.put, List.setIfInBounds_toArray, List.set_cons_zero, List.set_cons_succ, i64_w, i32_w]
        rfl
      refine pure_ (i := 7) (N := some 64) (v := ?_) (a' := ?_) #[true, true, true, true, true, true, true, true, false] rfl rfl (by kernel_rfl) (fun _ _ _ h => h) (Or.inl ⟨by rfl, ?_⟩) ?_ ?_
      rotate_left
      · intro w'
        go_simp
        with_reducible rfl
      rotate_left
      · simp only [Act.put, List.setIfInBounds_toArray, List.set_cons_zero, List.set_cons_succ, i64_w, i32_w]
        rfl
      refine last_ (i := 8) (N := none) #[true, true, true, true, true, true, true, true, true] rfl rfl (by kernel_rfl) (by decide) (fun K hK => ?_)
      have z3 := (fm_cells HK38.out).2.2.2.1
      have f3 := (fm_free HK38.out).2.2.2.1
      refine skip_ (w1 := ?_) (by rfl) rfl ?_ ?_
      rotate_left
      · go_simp
        rfl
      refine hK.out _ _ ?_
      clear hK K
      clear z3 f3
      refine done_ (by kernel_rfl) ?_
      have hl9 : (x.f3 ++ [n]).length = x.f3.length + 1 := by simp
      have hC := HC7.out
      obtain ⟨p0, p1_, p2, p3, p4⟩ := fm_cells hC.k3
      obtain ⟨o0, o1, o2, o3, o4⟩ := fm_free hC.k3
      obtain ⟨z0, z1, z2, z3, z4⟩ := fm_cells hC.k2
      obtain ⟨f0, f1, f2, f3, f4⟩ := fm_free hC.k2
      have hn1 : w1.heap.size ≠ w.heap.size + 1 := by have := hC.h3; omega
      have hn2 : w.heap.size + 1 ≠ w1.heap.size := fun e => hn1 e.symm
      clear hC
      obtain ⟨st1, st2, st3⟩ := st5 HC7.out.k2 (.int .i64 x.f0) (.string x.f1) (.int .i64 x.f2) (.slice A' (x.f3.length + 1) c') (.slice J4 x.f4.length q4)
      have HN := Lib.hid (HC7.out.newF st2)
      have HB := Lib.hid (HC7.out.dr.put5 (b := w.heap.size + 1) (by omega) (.int .i64 x.f0) (.string x.f1) (.int .i64 x.f2) (.slice A' (x.f3.length + 1) c') (.slice J4 x.f4.length q4))
      clear st1 st2 st3
      have HL9 := Lib.hid hl9
      clear hl9
      go_wp2_with fail
      refine bodyPost_ret (v := .agg #[.int .i64 x.f0, .string x.f1, .int .i64 x.f2, .slice A' (x.f3.length + 1) c', .slice J4 x.f4.length q4]) (by simp [results, Try.results80, go_sem, z0, z1, z2, z3, z4]) rfl ?_
      exact ⟨_, _, rfl, HN.out, HB.out.is, HB.out.b, HB.out.kp⟩
    · obtain ⟨rfl, rfl⟩ := H4.out c0 c1 c2 c3_
      have e0 : (c == 0) = false := beq_eq_false_iff_ne.mpr c0
      have e1 : (c == 1) = false := beq_eq_false_iff_ne.mpr c1
      have e2 : (c == 2) = false := beq_eq_false_iff_ne.mpr c2
      have e3 : (c == 3) = false := beq_eq_false_iff_ne.mpr c3_
      clear c0 c1 c2 c3_
      have hC := hw3.out
      obtain ⟨p0, p1_, p2, p3, p4⟩ := fm_cells hC.k3
      obtain ⟨o0, o1, o2, o3, o4⟩ := fm_free hC.k3
      obtain ⟨z0, z1, z2, z3, z4⟩ := fm_cells hC.k2
      obtain ⟨f0, f1, f2, f3, f4⟩ := fm_free hC.k2
      have hn1 : w1.heap.size ≠ w.heap.size + 1 := by have := hC.h3; omega
      have hn2 : w.heap.size + 1 ≠ w1.heap.size := fun e => hn1 e.symm
      clear hC
      obtain ⟨st1, st2, st3⟩ := st5 hw3.out.k2 (.int .i64 x.f0) (.string x.f1) (.int .i64 x.f2) (.slice J3 x.f3.length q3) (.slice J4 x.f4.length q4)
      have HN := Lib.hid (hw3.out.newF st2)
      have HB := Lib.hid (hw3.out.dr.put5 (b := w.heap.size + 1) (by omega) (.int .i64 x.f0) (.string x.f1) (.int .i64 x.f2) (.slice J3 x.f3.length q3) (.slice J4 x.f4.length q4))
      clear st1 st2 st3
      go_wp2_with fail
      refine bodyPost_ret (v := .agg #[.int .i64 x.f0, .string x.f1, .int .i64 x.f2, .slice J3 x.f3.length q3, (.slice J4 x.f4.length q4)]) (by simp [results, Try.results80, go_sem, z0, z1, z2, z3, z4]) rfl ?_
      exact ⟨_, _, rfl, HN.out, HB.out.is, HB.out.b, HB.out.kp⟩
end Go.Proofs.Ytcbomlmlindjdaa
end
section
namespace Go.Proofs.Ytcbomlmlindjdaa
set_option linter.unusedVariables false
def Bn : Nat → Nat
  | 0 => 13
  | d + 1 => 13 + 3 * (Bn d + 1)
theorem set_totL (l : List Fm) (i : Nat) (h : i < l.length) (y : Fm) : totL (l.set i y) + l[i].tot = totL l + y.tot := by
  induction l generalizing i with
  | nil => simp at h
  | cons a l ih =>
    cases i with
    | zero => simp [totL]; omega
    | succ i =>
      have := ih i (by simpa using h)
      simp only [List.set_cons_succ, totL, List.getElem_cons_succ]
      omega
theorem set_sizes (l : List Fm) (i : Nat) (h : i < l.length) (y : Fm) : sizes (l.set i y) + l[i].size = sizes l + y.size := by
  induction l generalizing i with
  | nil => simp at h
  | cons a l ih =>
    cases i with
    | zero => simp [sizes]; omega
    | succ i =>
      have := ih i (by simpa using h)
      simp only [List.set_cons_succ, sizes, List.getElem_cons_succ]
      omega
abbrev nms : List ByteArray := [(⟨#[97]⟩ : ByteArray), (⟨#[98]⟩ : ByteArray), (⟨#[120]⟩ : ByteArray), (⟨#[121]⟩ : ByteArray), (⟨#[102]⟩ : ByteArray), (⟨#[105, 102]⟩ : ByteArray), (⟨#[108, 101, 116]⟩ : ByteArray), (⟨#[43]⟩ : ByteArray)]
end Go.Proofs.Ytcbomlmlindjdaa
end
section
namespace Go.Proofs.Ytcbomlmlindjdaa
open Go.RowKit Go.Proofs.YtcbomlmlindjdaaW.PrintWords
set_option linter.unusedVariables false
set_option linter.unusedSimpArgs false
theorem badNms_small : ∀ v, v ∈ badNms → v.size ≤ 13 := by
  intro v hv
  simp only [badNms, List.mem_cons, List.not_mem_nil, or_false] at hv
  rcases hv with h | h | h | h | h <;> (rw [h]; decide)
theorem mutate_ex {s : List Int} (hs : Bts s) : ∀ x : Fm, x.tot ≤ 200000 → ∀ p : Nat, p + 3 * x.size ≤ 1000000 → ∃ (y : Fm) (q : Nat), q ≤ p + 3 * x.size ∧ y.tot ≤ x.tot + 14 ∧ y.size = x.size ∧ MutOk s x p y q := by
  intro x
  induction x using Fm.ind with
  | h x ih =>
  intro ht p hp
  have hsz := x.size_eq
  have htt := x.tot_eq
  have leaf : ∀ p1 : Nat, p1 + 2 ≤ 1000000 → ((x.f4 = [] ∧ p1 = p) ∨ (x.f4 ≠ [] ∧ p1 = p + 1 ∧ ∃ v : Int, v ≤ 0 ∧ Ev (fun k => Q.spec_l15Rd_pick.f k s (p : Int) 2) (v, ((p + 1 : Nat) : Int)))) → ∃ (y : Fm) (q : Nat), q ≤ p1 + 2 ∧ y.tot ≤ x.tot + 14 ∧ y.size = x.size ∧ MutOk s x p y q := by
    intro p1 hp1 hpre
    obtain ⟨c, hc, e1⟩ := ev_pick hs p1 (by omega) 14 (by omega)
    obtain ⟨n0, _, e2⟩ := ev_num hs (p1 + 1) (by omega) [0, 4, 1, 3] (by simp) (by simp)
    obtain ⟨n1, hn1, e3⟩ := ev_of hs (p1 + 1) (by omega) badNms (by simp) (by simp)
    obtain ⟨n2, _, e4⟩ := ev_num hs (p1 + 1) (by omega) [1000, -1, 5] (by simp) (by simp)
    obtain ⟨n3, _, e5⟩ := ev_num hs (p1 + 1) (by omega) [0, 100, 1, 50] (by simp) (by simp)
    have hb := badNms_small n1 hn1
    by_cases c0 : c = 0
    · exact ⟨⟨n0, x.f1, x.f2, x.f3, x.f4⟩, p1 + 2, by omega, by rw [Fm.tot_eq]; dsimp only; omega, by rw [Fm.size_eq]; dsimp only; omega, mut_stop x p p1 _ c _ ht hpre e1 (fun _ => ⟨n0, e2, rfl, rfl⟩) (fun h => by omega) (fun h => by omega) (fun h => by omega) (fun h => absurd c0 h)⟩
    by_cases c1 : c = 1
    · exact ⟨⟨x.f0, n1, x.f2, x.f3, x.f4⟩, p1 + 2, by omega, by rw [Fm.tot_eq]; dsimp only; omega, by rw [Fm.size_eq]; dsimp only; omega, mut_stop x p p1 _ c _ ht hpre e1 (fun h => absurd h c0) (fun _ => ⟨n1, e3, rfl, rfl⟩) (fun h => by omega) (fun h => by omega) (fun _ h => absurd c1 h)⟩
    by_cases c2 : c = 2
    · exact ⟨⟨x.f0, x.f1, n2, x.f3, x.f4⟩, p1 + 2, by omega, by rw [Fm.tot_eq]; dsimp only; omega, by rw [Fm.size_eq]; dsimp only; omega, mut_stop x p p1 _ c _ ht hpre e1 (fun h => absurd h c0) (fun h => absurd h c1) (fun _ => ⟨n2, e4, rfl, rfl⟩) (fun h => by omega) (fun _ _ h => absurd c2 h)⟩
    by_cases c3 : c = 3
    · exact ⟨⟨x.f0, x.f1, x.f2, x.f3 ++ [n3], x.f4⟩, p1 + 2, by omega, by rw [Fm.tot_eq]; simp only [List.length_append, List.length_cons, List.length_nil]; omega, by rw [Fm.size_eq]; dsimp only; omega, mut_stop x p p1 _ c _ ht hpre e1 (fun h => absurd h c0) (fun h => absurd h c1) (fun h => absurd h c2) (fun _ => ⟨n3, e5, rfl, rfl⟩) (fun _ _ _ h => absurd c3 h)⟩
    · exact ⟨⟨x.f0, x.f1, x.f2, x.f3, x.f4⟩, p1 + 1, by omega, by rw [Fm.tot_eq]; dsimp only; omega, by rw [Fm.size_eq]; dsimp only; omega, mut_stop x p p1 _ c _ ht hpre e1 (fun h => absurd h c0) (fun h => absurd h c1) (fun h => absurd h c2) (fun h => absurd h c3) (fun _ _ _ _ => ⟨rfl, rfl⟩)⟩
  by_cases h0 : x.f4 = []
  · obtain ⟨y, q, g1, g2, g3, g4⟩ := leaf p (by omega) (.inl ⟨h0, rfl⟩)
    exact ⟨y, q, by omega, g2, g3, g4⟩
  · obtain ⟨v, hv, e1⟩ := ev_pick hs p (by omega) 2 (by omega)
    have hl := List.length_pos_iff.2 h0
    have hone : 1 ≤ sizes x.f4 := by
      have := sizes_mem (List.getElem_mem hl)
      have := (x.f4[0]'hl).size_eq
      omega
    by_cases hz : 0 < v
    · obtain ⟨n, hn, e2⟩ := ev_pick hs (p + 1) (by omega) (x.f4.length : Int) (by have := len_totL x.f4; omega)
      obtain ⟨m, rfl⟩ := Int.eq_ofNat_of_zero_le (hn (by omega)).1
      have hm : m < x.f4.length := by have := (hn (by omega)).2; omega
      have hk := totL_mem (List.getElem_mem hm)
      have hsm := sizes_mem (List.getElem_mem hm)
      obtain ⟨y, q, g1, g2, g3, g4⟩ := ih _ (List.getElem_mem hm) (by omega) (p + 2) (by omega)
      have hst := set_totL x.f4 m hm y
      have hss := set_sizes x.f4 m hm y
      have hse : x.f4.set m y = x.f4.take m ++ y :: x.f4.drop (m + 1) := List.set_eq_take_append_cons_drop.trans (by rw [if_pos hm])
      rw [hse] at hst hss
      exact ⟨⟨x.f0, x.f1, x.f2, x.f3, x.f4.take m ++ y :: x.f4.drop (m + 1)⟩, q, by omega, by rw [Fm.tot_eq]; dsimp only; omega, by rw [Fm.size_eq]; dsimp only; omega, mut_rec x p q v m y ht hm hz e1 e2 g4⟩
    · obtain ⟨y, q, g1, g2, g3, g4⟩ := leaf (p + 1) (by omega) (.inr ⟨h0, rfl, v, by omega, e1⟩)
      exact ⟨y, q, by omega, g2, g3, g4⟩
end Go.Proofs.Ytcbomlmlindjdaa
end
section
namespace Go.Proofs.Ytcbomlmlindjdaa
open Go.RowKit Go.Proofs.YtcbomlmlindjdaaW.PrintWords Go.Proofs.Ytcbomlmlindjdaa.Q
set_option linter.unusedVariables false
end Go.Proofs.Ytcbomlmlindjdaa
end
section
namespace Go.Proofs.Ytcbomlmlindjdaa
open Go.RowKit Go.Proofs.YtcbomlmlindjdaaW.PrintWords Go.Proofs.YtcbomlmlindjdaaW.PrintLast Go.Proofs.YtcbomlmlindjdaaW.PrintMore
set_option linter.unusedVariables false
set_option linter.unusedSimpArgs false
@[reducible] def fmV (x : Fm) (A3 : Option Addr) (c3 : Nat) (A4 : Option Addr) (c4 : Nat) : Array Value := #[.int .i64 x.f0, .string x.f1, .int .i64 x.f2, .slice A3 x.f3.length c3, .slice A4 x.f4.length c4]
/-- A form is handed back. -/
def GetF (w : World) (x : Fm) (e : Ending) (w' : World) : Prop := ∃ A3 c3 A4 c4, e = .returned (.agg #[.int .i64 x.f0, .string x.f1, .int .i64 x.f2, .slice A3 x.f3.length c3, .slice A4 x.f4.length c4]) ∧ FmIn w' x A3 c3 A4 c4 ∧ Below w.heap.size w w'
/-- A form and another value are handed back. -/
def GetFV (w : World) (x : Fm) (v : Value) (e : Ending) (w' : World) : Prop := ∃ A3 c3 A4 c4, e = .returned (.tuple #[.agg #[.int .i64 x.f0, .string x.f1, .int .i64 x.f2, .slice A3 x.f3.length c3, .slice A4 x.f4.length c4], v]) ∧ FmIn w' x A3 c3 A4 c4 ∧ Below w.heap.size w w'
end Go.Proofs.Ytcbomlmlindjdaa
end
section
namespace Go.Proofs.Ytcbomlmlindjdaa
open Go.RowKit Go.Proofs.YtcbomlmlindjdaaW.PrintWords Go.Proofs.YtcbomlmlindjdaaW.PrintLast Go.Proofs.YtcbomlmlindjdaaW.PrintMore
set_option linter.unusedVariables false
set_option linter.unusedSimpArgs false
/-- The form x reads in w, and in every world in which the blocks from lo on stand as_ in w. -/
structure FmS (lo : Nat) (w : World) (x : Fm) (A3 : Option Addr) (c3 : Nat) (A4 : Option Addr) (c4 : Nat) : Prop where mk ::
  out : ∀ W : World, (∀ b, lo ≤ b → b < w.heap.size → W.heap[b]? = w.heap[b]?) → FmIn W x A3 c3 A4 c4
theorem FmS.now {lo : Nat} {w : World} {x : Fm} {A3 : Option Addr} {c3 : Nat} {A4 : Option Addr} {c4 : Nat} (h : FmS lo w x A3 c3 A4 c4) : FmIn w x A3 c3 A4 c4 := h.out w (fun _ _ _ => rfl)
theorem FmS.move {lo : Nat} {w W : World} {x : Fm} {A3 : Option Addr} {c3 : Nat} {A4 : Option Addr} {c4 : Nat} (h : FmS lo w x A3 c3 A4 c4) (hs : w.heap.size ≤ W.heap.size) (hm : ∀ b, lo ≤ b → b < w.heap.size → W.heap[b]? = w.heap[b]?) : FmS lo W x A3 c3 A4 c4 :=
  ⟨fun W' h' => h.out W' (fun b h1 h2 => (h' b h1 (Nat.lt_of_lt_of_le h2 hs)).trans (hm b h1 h2))⟩
theorem FmS.later {lo : Nat} {w W : World} {x : Fm} {A3 : Option Addr} {c3 : Nat} {A4 : Option Addr} {c4 : Nat} (h : FmS lo w x A3 c3 A4 c4) (hb : Below w.heap.size w W) : FmS lo W x A3 c3 A4 c4 := h.move hb.size (fun b _ hlt => hb.block b hlt)
theorem FmS.keep {lo g : Nat} {w W : World} {x : Fm} {A3 : Option Addr} {c3 : Nat} {A4 : Option Addr} {c4 : Nat} (h : FmS lo w x A3 c3 A4 c4) (hk : KeepBut w W g none) (hg : g < lo) : FmS lo W x A3 c3 A4 c4 := h.move hk.1 (fun b h1 hlt => hk.2 b hlt (by omega) (by simp))
theorem FmS.low {lo lo' : Nat} {w : World} {x : Fm} {A3 : Option Addr} {c3 : Nat} {A4 : Option Addr} {c4 : Nat} (h : FmS lo w x A3 c3 A4 c4) (hl : lo' ≤ lo) : FmS lo' w x A3 c3 A4 c4 := ⟨fun W hW => h.out W (fun b h1 h2 => hW b (Nat.le_trans hl h1) h2)⟩
/-- A form and another value are handed back; the form lies in new memory. -/
def GetFS (w : World) (x : Fm) (v : Value) (e : Ending) (w' : World) : Prop := ∃ A3 c3 A4 c4, e = .returned (.tuple #[.agg #[.int .i64 x.f0, .string x.f1, .int .i64 x.f2, .slice A3 x.f3.length c3, .slice A4 x.f4.length c4], v]) ∧ FmS w.heap.size w' x A3 c3 A4 c4 ∧ Below w.heap.size w w'
theorem GetFS.V {w : World} {x : Fm} {v : Value} {e : Ending} {w' : World} (h : GetFS w x v e w') : GetFV w x v e w' := by
  obtain ⟨A3, c3, A4, c4, he, hs, hb⟩ := h
  exact ⟨A3, c3, A4, c4, he, hs.now, hb⟩
theorem NewF.toS {B : Nat} {w : World} {x : Fm} {v3 v4 : Value} (h : NewF B w x v3 v4) : ∃ A3 c3 A4 c4, v3 = .slice A3 x.f3.length c3 ∧ v4 = .slice A4 x.f4.length c4 ∧ FmS B w x A3 c3 A4 c4 := by
  obtain ⟨fp, ht, _, hge⟩ := h
  obtain ⟨A3, c3, A4, c4, rfl, rfl, _⟩ := ht.In
  refine ⟨A3, c3, A4, c4, rfl, rfl, ⟨fun W hW => ?_⟩⟩
  obtain ⟨B3, d3, B4, d4, e3, e4, hi⟩ := (ht.move (w1 := W) x (fun b hb => hW b (hge b hb) (ht.lt x b hb))).In
  injection e3 with a1 _ a2
  injection e4 with a3 _ a4
  subst a1 a2 a3 a4
  exact hi
theorem Dr.ltW {w0 w W : World} {g : Nat} {s : List Int} {q : Int} (h : Dr w0 w g s q W) : g < W.heap.size := Nat.lt_of_lt_of_le h.lt h.size
/-- A form is drawn: it lies in new memory, and the source stands at q. -/
def DrGet (w0 : World) (g : Nat) (s : List Int) (q : Nat) (y : Fm) (w : World) (e : Ending) (w' : World) : Prop :=
  ∃ A3 c3 A4 c4, e = .returned (.agg #[.int .i64 y.f0, .string y.f1, .int .i64 y.f2, .slice A3 y.f3.length c3, .slice A4 y.f4.length c4]) ∧ FmS w.heap.size w' y A3 c3 A4 c4 ∧ IsRd w0 w' g s (q : Int) ∧ Below w0.heap.size w0 w' ∧ KeepBut w w' g none
theorem DrPost.get {w0 : World} {g : Nat} {s : List Int} {q : Nat} {y : Fm} {w : World} {e : Ending} {w' : World} (h : DrPost w0 g s (q : Int) y w e w') : DrGet w0 g s q y w e w' := by
  obtain ⟨v3, v4, rfl, hn, hi, hb, hk⟩ := h
  obtain ⟨A3, c3, A4, c4, rfl, rfl, hs⟩ := hn.toS
  exact ⟨A3, c3, A4, c4, rfl, hs, hi, hb, hk⟩
/-- num over a literal in its own block. -/
theorem num_lit {s : List Int} {l : List Int} {cs : Array Value} (hcs : cs.toList = l.map (Value.int .i64)) (hl : l.length ≤ 1000) {p : Nat} {n : Int} (h : Ev (fun k => Q.spec_l15Rd_num.f k s (p : Int) l) (n, ((p + 1 : Nat) : Int))) (g : Nat) (w0 W : World) (hi : IsRd w0 W g s (p : Int)) (hb : Below w0.heap.size w0 W) :
    Calls Try.prog 56 #[.pointer (some ⟨g, 0, none⟩), .slice (some ⟨W.heap.size, 0, none⟩) l.length l.length] (W.alloc (.cells cs 3 (0, 0))) (fun e w' => e = .returned (.int .i64 n) ∧ IsRd w0 w' g s ((p + 1 : Nat) : Int) ∧ Below w0.heap.size w0 w' ∧ KeepBut W w' g none) := by
  obtain ⟨k, hk⟩ := h.rounds
  have hlt := Q.IsS78.lt hi
  refine (Q.spec_l15Rd_num.calls k g s _ (some ⟨W.heap.size, 0, none⟩) _ l n _ w0 _ (Q.IsS78.below hi (below_new _ _)) (below_step hb (below_new _ _)) (reads_block (blk_new W _) hl hcs) (Nat.le_refl _) (fun ad e _ => by cases e; show W.heap.size ≠ g; omega) hk).mono ?_
  rintro e w' ⟨rfl, h1, h2, h3⟩
  exact ⟨rfl, h1, h2, (KeepBut.of_below (below_new W _) g none).trans h3 (.inl rfl)⟩
/-- of over a literal in its own block. -/
theorem of_lit {s : List Int} {l : List ByteArray} {cs : Array Value} (hcs : cs.toList = l.map Value.string) (hl : l.length ≤ 1000) {p : Nat} {n : ByteArray} (h : Ev (fun k => Q.spec_l15Rd_of.f k s (p : Int) l) (n, ((p + 1 : Nat) : Int))) (g : Nat) (w0 W : World) (hi : IsRd w0 W g s (p : Int)) (hb : Below w0.heap.size w0 W) :
    Calls Try.prog 66 #[.pointer (some ⟨g, 0, none⟩), .slice (some ⟨W.heap.size, 0, none⟩) l.length l.length] (W.alloc (.cells cs 9 (0, 0))) (fun e w' => e = .returned (.string n) ∧ IsRd w0 w' g s ((p + 1 : Nat) : Int) ∧ Below w0.heap.size w0 w' ∧ KeepBut W w' g none) := by
  obtain ⟨k, hk⟩ := h.rounds
  have hlt := Q.IsS78.lt hi
  refine (Q.spec_l15Rd_of.calls k g s _ (some ⟨W.heap.size, 0, none⟩) _ l n _ w0 _ (Q.IsS78.below hi (below_new _ _)) (below_step hb (below_new _ _)) (reads_strs (blk_new W _) hl hcs) (Nat.le_refl _) (fun ad e _ => by cases e; show W.heap.size ≠ g; omega) hk).mono ?_
  rintro e w' ⟨rfl, h1, h2, h3⟩
  exact ⟨rfl, h1, h2, (KeepBut.of_below (below_new W _) g none).trans h3 (.inl rfl)⟩
/-- A pick. -/
theorem pick_at {s : List Int} {p : Nat} {n v : Int} (h : Ev (fun k => Q.spec_l15Rd_pick.f k s (p : Int) n) (v, ((p + 1 : Nat) : Int))) (g : Nat) (w0 W : World) (hi : IsRd w0 W g s (p : Int)) (hb : Below w0.heap.size w0 W) :
    Calls Try.prog 67 #[.pointer (some ⟨g, 0, none⟩), .int .i64 n] W (fun e w' => e = .returned (.int .i64 v) ∧ IsRd w0 w' g s ((p + 1 : Nat) : Int) ∧ Below w0.heap.size w0 w' ∧ KeepBut W w' g none) := by
  obtain ⟨k, hk⟩ := h.rounds
  refine (Q.spec_l15Rd_pick.calls k g s _ n v _ w0 _ hi hb hk).mono ?_
  rintro e w' ⟨rfl, h1, h2, h3⟩
  exact ⟨rfl, h1, h2, h3⟩
/-- The source is opened. -/
theorem open_at (l : List Int) (hl : ∀ z, z ∈ l → 0 ≤ z ∧ z < 256) : ∃ s, Bts s ∧ ∀ (A : Option Addr) (c : Nat) (w0 w : World), Below w0.heap.size w0 w → (Kd.int .u8).C w0 A l.length l → l.length ≤ c →
    Calls Try.prog 39 #[.slice A l.length c] w (fun e w' => ∃ g, e = .returned (.pointer (some ⟨g, 0, none⟩)) ∧ IsRd w0 w' g s ((0 : Nat) : Int) ∧ Below w0.heap.size w0 w' ∧ Below w.heap.size w w') := by
  obtain ⟨s, hs, he⟩ := ev_open l hl
  refine ⟨s, hs, fun A c w0 w hb hr hc => ?_⟩
  exact (Q.spec_l15Open.calls A c l s 0 w0 w hb hr hc he).mono fun e w' h => h
end Go.Proofs.Ytcbomlmlindjdaa
end
section
namespace Go.Proofs.Ytcbomlmlindjdaa
open Go.RowKit Go.Proofs.YtcbomlmlindjdaaW.PrintWords Go.Proofs.YtcbomlmlindjdaaW.PrintLast Go.Proofs.YtcbomlmlindjdaaW.PrintMore
set_option linter.unusedVariables false
set_option linter.unusedSimpArgs false
/-- Two forms are handed back. -/
def GetTwo (w : World) (x y : Fm) (e : Ending) (w' : World) : Prop := ∃ A3 c3 A4 c4 B3 d3 B4 d4, e = .returned (.tuple #[.agg #[.int .i64 x.f0, .string x.f1, .int .i64 x.f2, .slice A3 x.f3.length c3, .slice A4 x.f4.length c4], .agg #[.int .i64 y.f0, .string y.f1, .int .i64 y.f2, .slice B3 y.f3.length d3, .slice B4 y.f4.length d4]]) ∧ FmIn w' x A3 c3 A4 c4 ∧ FmIn w' y B3 d3 B4 d4 ∧ Below w.heap.size w w'
/-- The form of a name without scopes. -/
abbrev lnm (n : ByteArray) : Fm := ⟨1, n, 0, [], []⟩
theorem lnm_in (n : ByteArray) (w : World) : FmIn w (lnm n) none 0 none 0 := ⟨Nat.le_refl 0, Kd.C_nil kI w, Nat.le_refl 0, Kd.C_nil kF w⟩
theorem nm_small {n : ByteArray} (h : n ∈ [(⟨#[120]⟩ : ByteArray), ⟨#[121]⟩]) : n.size ≤ 13 := by
  simp only [List.mem_cons, List.not_mem_nil, or_false] at h
  rcases h with rfl | rfl <;> decide
theorem l1Name_any (n : ByteArray) (w : World) : Calls Try.prog 65 #[.string n] w (fun e w' => e = .returned (.agg #[.int .i64 1, .string n, .int .i64 0, .slice none 0 0, .slice none 0 0]) ∧ Below w.heap.size w w') := by
  have k0 := blk_new w (.cells #[.int .i64 1, .string n, .int .i64 0, .slice none 0 0, .slice none 0 0] 30)
  obtain ⟨q0, q1, q2, q3, q4⟩ := fm_cells k0
  have HB := Lib.hid (below_new w (.cells #[.int .i64 1, .string n, .int .i64 0, .slice none 0 0, .slice none 0 0] 30))
  clear k0
  go_enter Try.func65, Try.ntmps65
  go_wp2_with fail
  refine bodyPost_ret (v := .agg #[.int .i64 1, .string n, .int .i64 0, .slice none 0 0, .slice none 0 0]) (by simp [results, Try.results65, go_sem, q0, q1, q2, q3, q4]) rfl ?_
  exact ⟨rfl, HB.out⟩
end Go.Proofs.Ytcbomlmlindjdaa
end
section
namespace Go.Proofs.Ytcbomlmlindjdaa
open Go.RowKit Go.Proofs.YtcbomlmlindjdaaW.PrintWords Go.Proofs.YtcbomlmlindjdaaW.PrintLast Go.Proofs.YtcbomlmlindjdaaW.PrintMore
set_option linter.unusedVariables false
set_option linter.unusedSimpArgs false
/-- The list reads in w, and in every world in which the blocks from lo on stand as_ in w. -/
structure BdS (lo : Nat) (w : World) (l : List Bd) (A : Option Addr) (c : Nat) : Prop where mk ::
  le : l.length ≤ c
  out : ∀ W : World, (∀ b, lo ≤ b → b < w.heap.size → W.heap[b]? = w.heap[b]?) → kB.C W A l.length l
theorem BdS.now {lo : Nat} {w : World} {l : List Bd} {A : Option Addr} {c : Nat} (h : BdS lo w l A c) : kB.C w A l.length l := h.out w (fun _ _ _ => rfl)
theorem BdS.move {lo : Nat} {w W : World} {l : List Bd} {A : Option Addr} {c : Nat} (h : BdS lo w l A c) (hs : w.heap.size ≤ W.heap.size) (hm : ∀ b, lo ≤ b → b < w.heap.size → W.heap[b]? = w.heap[b]?) : BdS lo W l A c :=
  ⟨h.le, fun W' h' => h.out W' (fun b h1 h2 => (h' b h1 (Nat.lt_of_lt_of_le h2 hs)).trans (hm b h1 h2))⟩
theorem BdS.later {lo : Nat} {w W : World} {l : List Bd} {A : Option Addr} {c : Nat} (h : BdS lo w l A c) (hb : Below w.heap.size w W) : BdS lo W l A c := h.move hb.size (fun b _ hlt => hb.block b hlt)
theorem BdS.keep {lo g : Nat} {w W : World} {l : List Bd} {A : Option Addr} {c : Nat} (h : BdS lo w l A c) (hk : KeepBut w W g none) (hg : g < lo) : BdS lo W l A c := h.move hk.1 (fun b h1 hlt => hk.2 b hlt (by omega) (by simp))
theorem BdS.low {lo lo' : Nat} {w : World} {l : List Bd} {A : Option Addr} {c : Nat} (h : BdS lo w l A c) (hl : lo' ≤ lo) : BdS lo' w l A c := ⟨h.le, fun W hW => h.out W (fun b h1 h2 => hW b (Nat.le_trans hl h1) h2)⟩
theorem BdL.repsC {w : World} : ∀ (l : List Bd) {inner : List Value} {fp : List Nat}, BdL w l inner fp → Reps (kB.K w) 3 l inner := by
  intro l
  induction l with
  | nil => intro inner fp h; obtain ⟨rfl, rfl⟩ := h; exact Reps.none _ _
  | cons b l ih =>
    intro inner fp h
    obtain ⟨v1, rest, fs, rfl, rfl, h1, hs⟩ := h
    obtain ⟨A, c, rfl, hc, hr⟩ := own_C h1
    have hr2 := ih hs
    refine ⟨by rw [List.length_append, hr2.1]; simp; omega, fun j p hj => ?_⟩
    cases j with
    | zero =>
      have : b = p := by simpa using hj
      subst this
      simpa using Q.k36_mk w b hc hr
    | succ j =>
      have h2 := hr2.2 j p (by simpa using hj)
      rw [show (j + 1) * 3 = 3 + j * 3 from by omega, ← List.drop_drop]
      simpa using h2
theorem BdL.reads {w : World} {l : List Bd} {inner : List Value} {fp : List Nat} {v : Value} (h : BdL w l inner fp) (h4 : w.ownsRow 0 36 3 v l.length inner) : ∃ A c, v = .slice A l.length c ∧ l.length ≤ c ∧ kB.C w A l.length l := by
  obtain ⟨A4, c4, e, r4⟩ := own_reads_row (R := kB.K w) h4 (h.repsC l) rfl
  subst e
  exact ⟨A4, c4, rfl, own_le h4, r4⟩
theorem BdS.of {B : Nat} {w : World} {l : List Bd} {v : Value} {inner : List Value} {fp : List Nat} (ho : w.ownsRow 0 36 3 v l.length inner) (ht : BdL w l inner fp) (hge : ∀ b, b ∈ obs v ++ fp → B ≤ b) : ∃ A c, v = .slice A l.length c ∧ BdS B w l A c := by
  have hlt := NewB.lt (B := B) ho ht
  obtain ⟨A, c, rfl, hc, _⟩ := ht.reads ho
  refine ⟨A, c, rfl, hc, fun W hW => ?_⟩
  obtain ⟨A', c', e, _, hr⟩ := (ht.move (w1 := W) (fun b hb => hW b (hge b (List.mem_append_right _ hb)) (hlt b (List.mem_append_right _ hb)))).reads (own_move (w1 := W) ho (fun b hb => hW b (hge b (List.mem_append_left _ (obs_mem.2 hb))) (hlt b (List.mem_append_left _ (obs_mem.2 hb)))))
  injection e with e1 _ e2
  subst e1
  exact hr
theorem NewB.toS {B : Nat} {w : World} {l : List Bd} {v : Value} (h : NewB B w l v) : ∃ A c, v = .slice A l.length c ∧ BdS B w l A c := by
  obtain ⟨inner, fp, ho, ht, hn, hge⟩ := h
  exact BdS.of ho ht hge
theorem NewB.toS' {B : Nat} {w : World} {l : List Bd} {A : Option Addr} {n c : Nat} (h : NewB B w l (.slice A n c)) : n = l.length ∧ BdS B w l A c := by
  obtain ⟨A', c', e, hs⟩ := h.toS
  injection e with e1 e2 e3
  subst e1 e2 e3
  exact ⟨rfl, hs⟩
theorem Dr.b0 {w0 w W : World} {g : Nat} {s : List Int} {q : Int} (h : Dr w0 w g s q W) : w0.heap.size ≤ w.heap.size := by have := Q.IsS78.ge h.is; have := h.lt; omega
theorem own_base_of {w : World} {B e sz n : Nat} {v : Value} {xs : List Value} (h : w.ownsRow B e sz v n xs) : ∀ k, v.ownBlock = some k → B ≤ k := by
  intro k hk
  rcases h with ⟨_, ⟨rfl, _⟩ | ⟨g, cap, cur, rfl, hg, _⟩⟩
  · cases hk
  · have : g = k := by simpa [Value.ownBlock] using hk
    omega
/-- A list of few bindings with few scopes and short names. -/
def SmD (n : Nat) (l : List Bd) : Prop := l.length ≤ n ∧ ∀ b, b ∈ l → b.f0.size ≤ n ∧ b.f1.length ≤ n
theorem SmD.B {n : Nat} {l : List Bd} (h : SmD n l) (hn : n ≤ 2000000) : SmB l := ⟨by have := h.1; omega, fun b hb => by have := h.2 b hb; omega⟩
theorem SmD.more {n m : Nat} {l : List Bd} (h : SmD n l) (hn : n ≤ m) : SmD m l := ⟨by have := h.1; omega, fun b hb => by have := h.2 b hb; omega⟩
theorem bdsOk_small {l : List Bd} (h : BdsOk l) : SmD 100 l := by
  obtain ⟨h1, h2, _⟩ := bdsOk_iff.1 h
  refine ⟨by omega, fun b hb => ?_⟩
  have hk := h2 b hb
  exact ⟨by have := nmOk_size hk.1; omega, by have := hk.2.1.1; omega⟩
theorem addBindR_okD {l : List Bd} {x : Fm} {id : Int} (h : (addBindR l x id).2 = true) : BdsOk (addBindR l x id).1 := by
  unfold addBindR at h ⊢
  split at h
  · rename_i h1
    rw [if_pos h1]
    split at h
    · rename_i h2
      rw [if_pos h2]; exact pB_iff.1 h2
    · cases h
  · cases h
/-- A list of bindings is handed back by a function that draws: it lies in new memory, and the source stands at q. -/
def DrB (w0 : World) (g : Nat) (s : List Int) (q : Nat) (l : List Bd) (w : World) (e : Ending) (w' : World) : Prop :=
  ∃ A c, e = .returned (.slice A l.length c) ∧ BdS w.heap.size w' l A c ∧ IsRd w0 w' g s (q : Int) ∧ Below w0.heap.size w0 w' ∧ KeepBut w w' g none
/-- num over a literal whose block's number is told otherwise. -/
theorem num_litB {s : List Int} {l : List Int} {cs : Array Value} (hcs : cs.toList = l.map (Value.int .i64)) (hl : l.length ≤ 1000) {p : Nat} {n : Int} (h : Ev (fun k => Q.spec_l15Rd_num.f k s (p : Int) l) (n, ((p + 1 : Nat) : Int))) (g : Nat) (w0 W : World) {B : Nat} (hB : W.heap.size = B) (hi : IsRd w0 W g s (p : Int)) (hb : Below w0.heap.size w0 W) :
    Calls Try.prog 56 #[.pointer (some ⟨g, 0, none⟩), .slice (some ⟨B, 0, none⟩) l.length l.length] (W.alloc (.cells cs 3 (0, 0))) (fun e w' => e = .returned (.int .i64 n) ∧ IsRd w0 w' g s ((p + 1 : Nat) : Int) ∧ Below w0.heap.size w0 w' ∧ KeepBut W w' g none) := by
  subst hB
  exact num_lit hcs hl h g w0 W hi hb
abbrev nm3 : List ByteArray := [⟨#[120]⟩, ⟨#[120]⟩, ⟨#[121]⟩]
theorem nm3_small {n : ByteArray} (h : n ∈ nm3) : n.size ≤ 13 := by
  simp only [List.mem_cons, List.not_mem_nil, or_false] at h
  rcases h with rfl | rfl | rfl <;> decide
noncomputable def nextB (l : List Bd) (y : Fm) : List Bd := if (addBindR l y (1 + (l.length : Int))).2 = true then (addBindR l y (1 + (l.length : Int))).1 else l
structure RoundB (s : List Int) (l : List Bd) (p : Nat) (l' : List Bd) (q : Nat) (nm : ByteArray) (y : Fm) : Prop where
  of_ : Ev (fun k => Q.spec_l15Rd_of.f k s (p : Int) nm3) (nm, ((p + 1 : Nat) : Int))
  dress : DressOk s (lnm nm) (p + 1) y q
  tot : y.tot ≤ 1000
  next : l' = nextB l y
theorem draw_seq {s : List Int} (hs : Bts s) : ∀ (n p : Nat) (l : List Bd), p + 2 * n ≤ 900000 → SmD 100 l → ∃ (ls : Nat → List Bd) (ps : Nat → Nat) (nms : Nat → ByteArray) (ys : Nat → Fm), ls 0 = l ∧ ps 0 = p ∧ ps n ≤ p + 2 * n ∧ (∀ j, j ≤ n → SmD 100 (ls j)) ∧ ∀ j, j < n → RoundB s (ls j) (ps j) (ls (j + 1)) (ps (j + 1)) (nms j) (ys j)
  | 0, p, l, hp, hl => ⟨fun _ => l, fun _ => p, fun _ => ⟨#[]⟩, fun _ => lnm ⟨#[]⟩, rfl, rfl, by show p ≤ _; omega, fun _ _ => hl, fun j hj => absurd hj (Nat.not_lt_zero _)⟩
  | n + 1, p, l, hp, hl => by
    obtain ⟨nm, hnm, e1⟩ := ev_of hs p (by omega) nm3 (by simp) (by simp)
    have n1 := nm3_small hnm
    have ht1 : (lnm nm).tot = nm.size + 0 + 0 := Fm.tot_eq _
    have hs1 : (lnm nm).size = 1 + 0 := Fm.size_eq _
    obtain ⟨y, q, a1, b1, _, _, c1⟩ := dress_ex hs (lnm nm) (by omega) (p + 1) (by omega)
    have hl2 : SmD 100 (nextB l y) := by
      unfold nextB
      split
      · rename_i h; exact bdsOk_small (addBindR_okD h)
      · exact hl
    obtain ⟨ls, ps, nms, ys, h1, h2, h3, h4, h5⟩ := draw_seq hs n q (nextB l y) (by omega) hl2
    refine ⟨fun j => match j with | 0 => l | j + 1 => ls j, fun j => match j with | 0 => p | j + 1 => ps j, fun j => match j with | 0 => nm | j + 1 => nms j, fun j => match j with | 0 => y | j + 1 => ys j, rfl, rfl, by simp only; omega, fun j hj => ?_, fun j hj => ?_⟩
    · cases j with
      | zero => exact hl
      | succ j => exact h4 j (by omega)
    · cases j with
      | zero => exact ⟨e1, by simpa [h2] using c1, (show y.tot ≤ 1000 by omega), by simpa using h1⟩
      | succ j => exact h5 j (by omega)
abbrev num7 : List Int := [3, 2, 5, 1, 0, 7]
theorem num7_le {n : Int} (h : n ∈ num7) : 0 ≤ n ∧ n ≤ 7 := by
  simp only [List.mem_cons, List.not_mem_nil, or_false] at h
  rcases h with rfl | rfl | rfl | rfl | rfl | rfl <;> omega
theorem kB_nil (w : World) (A : Option Addr) : kB.C w A ([] : List Bd).length [] := ⟨rfl, by simp, fun h => absurd h (Nat.lt_irrefl 0)⟩
def DrawBOk (s : List Int) (p : Nat) (l : List Bd) (q : Nat) : Prop := ∀ (g : Nat) (w0 w : World), IsRd w0 w g s (p : Int) → Below w0.heap.size w0 w → Calls Try.prog 41 #[.pointer (some ⟨g, 0, none⟩)] w (DrB w0 g s q l w)
set_option maxHeartbeats 4000000 in
set_option maxRecDepth 100000 in
theorem l3Draw_ex {s : List Int} (hs : Bts s) (p : Nat) (hp : p ≤ 800000) : ∃ (l : List Bd) (q : Nat), q ≤ p + 20 ∧ SmD 100 l ∧ DrawBOk s p l q := by
  obtain ⟨n0, hn0, e0⟩ := ev_num hs p (by omega) num7 (by simp) (by simp)
  have hn := num7_le hn0
  obtain ⟨n, rfl⟩ := Int.eq_ofNat_of_zero_le hn.1
  have hn7 : n ≤ 7 := by omega
  obtain ⟨ls, ps, nms, ys, h1, h2, h3, h4, h5⟩ := draw_seq hs n (p + 1) [] (by omega) ⟨by simp, by simp⟩
  refine ⟨ls n, ps n, by omega, h4 n (Nat.le_refl _), fun g w0 w hi hb => ?_⟩
  have HE := Lib.hid e0
  have HD0 := Lib.hid (Dr.new hi hb)
  have H1 := Lib.hid h1
  have H2 := Lib.hid h2
  have H4 := Lib.hid h4
  have H5 := Lib.hid h5
  clear e0 hi hb h1 h2 h3 h4 h5 hn0 hn hs
  go_enter Try.func41, Try.ntmps41
  go_wp2_with fail
  have HD := Lib.hid (HD0.out.later (below_new w (.cells #[] 36)))
  refine (num_litB (l := num7) rfl (by simp) HE.out g w0 (w.alloc (.cells #[] 36)) (B := w.heap.size + 1) (by simp) HD.out.is HD.out.b).mono ?_
  rintro e w1 ⟨rfl, hi, hb, hk⟩
  replace HD := Lib.hid (HD.out.call hi hb hk)
  have HW := Lib.hid (show w.heap.size ≤ w1.heap.size from HD.out.size)
  clear hi hb hk HE HD0
  go_wp2_with fail
  go_loopg [3, 4] n (fun kq v3 v4 w' => ∃ (j : Nat) (A : Option Addr) (c : Nat), j ≤ n ∧ n - j ≤ kq ∧ v3 = .slice A (ls j).length c ∧ v4 = .int .i64 ((n - j : Nat) : Int) ∧ Aside0 (BdS w.heap.size w' (ls j) A c) ∧ Aside0 (Dr w0 w g s (ps j : Int) w'))
  case atStart =>
    refine ⟨0, some ⟨w.heap.size, 0, none⟩, 0, Nat.zero_le _, by omega, ?_, by simp, ⟨?_⟩, ⟨?_⟩⟩
    · rw [H1.out]; rfl
    · rw [H1.out]; exact ⟨Nat.le_refl _, fun W _ => kB_nil W _⟩
    · rw [H2.out]; exact HD.out
  case round =>
    obtain ⟨j, A, c, hj, hg, rfl, rfl, HO, HR⟩ := hrel
    by_cases hlt : j < n
    · have R := Lib.hid (H5.out j hlt)
      have hsm := H4.out j hj
      have HS := Lib.hid hsm
      have hlj : (ls j).length ≤ 100 := hsm.1
      generalize hlse : ls j = l at HO HS R hlj
      generalize hpse : ps j = pj at HR R
      generalize hnms : nms j = nm at R
      generalize hyse : ys j = y at R
      have t1 : decide (((n - j : Nat) : Int) > 0) = true := decide_eq_true (by omega)
      have t2 : decide (0 < n - j) = true := decide_eq_true (by omega)
      clear hsm hlse hpse hnms hyse
      go_wp2_with fail
      refine (of_lit (l := nm3) rfl (by simp) R.out.of_ g w0 _ HR.out.is HR.out.b).mono ?_
      rintro e w2 ⟨rfl, hi, hb, hk⟩
      have HO2 := Lib.hid (HO.out.move hk.1 (fun b h1 h2 => hk.2 b h2 (by have := HR.out.lt; omega) (by simp)))
      have HR2 := Lib.hid (HR.out.call hi hb hk)
      clear hi hb hk HO HR
      go_wp2_with fail
      refine (l1Name_any nm w2).mono ?_
      rintro e w3 ⟨rfl, hb⟩
      replace HO2 := Lib.hid (HO2.out.later hb)
      replace HR2 := Lib.hid (HR2.out.later hb)
      clear hb
      go_wp2_with fail
      refine (R.out.dress g none 0 none 0 w0 w3 HR2.out.is HR2.out.b (lnm_in nm w3)).mono ?_
      intro e w4 hpst
      obtain ⟨Y_3, Y_c3, Y_4, Y_c4, rfl, hf, hi, hb, hk⟩ := hpst.get
      replace HO2 := Lib.hid (HO2.out.move hk.1 (fun b h1 h2 => hk.2 b h2 (by have := HR2.out.lt; omega) (by simp)))
      replace HR2 := Lib.hid (HR2.out.call hi hb hk)
      have HY := Lib.hid hf.now
      clear hf hi hb hk hpst
      go_wp2_with fail
      refine (specAddB_any l A c y Y_3 Y_c3 Y_4 Y_c4 (1 + (l.length : Int)) w4 HO2.out.now HO2.out.le HY.out (HS.out.B (by omega)) (by have := R.out.tot; omega)).mono ?_
      rintro e w5 ⟨v, rfl, hnb, hb⟩
      obtain ⟨B, d, rfl, hbs⟩ := hnb.toS
      have HB2 := Lib.hid (hbs.low (show w.heap.size ≤ w4.heap.size from HR2.out.size))
      replace HO2 := Lib.hid (HO2.out.later hb)
      replace HR2 := Lib.hid (HR2.out.later hb)
      clear hb hnb hbs
      have HN := Lib.hid R.out.next
      unfold nextB at HN
      have hsub : ((n - j : Nat) : Int) - 1 = ((n - (j + 1) : Nat) : Int) := by omega
      rcases hrb : addBindR l y (1 + (l.length : Int)) with ⟨r, b⟩
      rw [hrb] at HN HB2
      rcases b with _ | _
      · have HN2 := Lib.hid ((if_neg (by simp) : (if ((r, false) : List Bd × Bool).2 = true then ((r, false) : List Bd × Bool).1 else l) = l))
        rw [HN2.out] at HN
        clear HB2 hrb
        go_wp2_with fail
        go_roundg (n - (j + 1))
        case measure => omega
        case rel => exact ⟨j + 1, A, c, by omega, Nat.le_refl _, by rw [HN.out], by go_num, ⟨by rw [HN.out]; exact HO2.out⟩, ⟨HR2.out⟩⟩
      · have HN2 := Lib.hid ((if_pos (by simp) : (if ((r, true) : List Bd × Bool).2 = true then ((r, true) : List Bd × Bool).1 else l) = r))
        rw [HN2.out] at HN
        clear HO2 hrb
        go_wp2_with fail
        go_roundg (n - (j + 1))
        case measure => omega
        case rel => exact ⟨j + 1, B, d, by omega, Nat.le_refl _, by rw [HN.out], by go_num, ⟨by rw [HN.out]; exact HB2.out⟩, ⟨HR2.out⟩⟩
    · obtain rfl : j = n := by omega
      have t1 : decide (((j - j : Nat) : Int) > 0) = false := decide_eq_false (by omega)
      have t2 : decide (0 < j - j) = false := decide_eq_false (by omega)
      go_wp2_with fail
      go_ret
      exact ⟨A, c, rfl, HO.out, HR.out.is, HR.out.b, HR.out.kp⟩
end Go.Proofs.Ytcbomlmlindjdaa
end
section
namespace Go.Proofs.Ytcbomlmlindjdaa
open Go.RowKit Go.Proofs.YtcbomlmlindjdaaW.PrintWords Go.Proofs.YtcbomlmlindjdaaW.PrintLast Go.Proofs.YtcbomlmlindjdaaW.PrintMore
set_option linter.unusedVariables false
set_option linter.unusedSimpArgs false
end Go.Proofs.Ytcbomlmlindjdaa
end
section
namespace Go.Proofs.Ytcbomlmlindjdaa
open Go.RowKit Go.Proofs.YtcbomlmlindjdaaW.PrintWords Go.Proofs.YtcbomlmlindjdaaW.PrintLast Go.Proofs.YtcbomlmlindjdaaW.PrintMore
set_option linter.unusedVariables false
set_option linter.unusedSimpArgs false
theorem RetF.T {w : World} {x : Fm} {e : Ending} {w' : World} (h : RetF w x e w') : ∃ v3 v4, e = .returned (.agg #[.int .i64 x.f0, .string x.f1, .int .i64 x.f2, v3, v4]) ∧ tellsNew.T w.heap.size w' x v3 v4 ∧ Below w.heap.size w w' := h
end Go.Proofs.Ytcbomlmlindjdaa
end
section
namespace Go.Proofs.Ytcbomlmlindjdaa
open Go.RowKit Go.Proofs.YtcbomlmlindjdaaW.PrintWords Go.Proofs.YtcbomlmlindjdaaW.PrintLast Go.Proofs.YtcbomlmlindjdaaW.PrintMore
set_option linter.unusedVariables false
set_option linter.unusedSimpArgs false
theorem NewF.In {B : Nat} {w : World} {x : Fm} {v3 v4 : Value} (h : NewF B w x v3 v4) : ∃ A3 c3 A4 c4, v3 = .slice A3 x.f3.length c3 ∧ v4 = .slice A4 x.f4.length c4 ∧ FmIn w x A3 c3 A4 c4 := by
  obtain ⟨fp, ht, _, _⟩ := h
  exact ht.In
end Go.Proofs.Ytcbomlmlindjdaa
end
section
namespace Go.Proofs.Ytcbomlmlindjdaa
open Go.RowKit Go.Proofs.YtcbomlmlindjdaaW.PrintWords Go.Proofs.YtcbomlmlindjdaaW.PrintLast Go.Proofs.YtcbomlmlindjdaaW.PrintMore
set_option linter.unusedVariables false
set_option linter.unusedSimpArgs false
theorem byteOk {n : Int} (h : (Lit.int .u8 n).wf = true) : 0 ≤ n ∧ n < 256 := by
  simp only [Lit.wf, Bool.and_eq_true, decide_eq_true_eq] at h
  have e1 : IntKind.u8.min = 0 := by decide
  have e2 : IntKind.u8.max = 255 := by decide
  omega
/-- A row of numbers is handed back. -/
def GetIs (w : World) (r : List Int) (e : Ending) (w' : World) : Prop := ∃ A c, e = .returned (.slice A r.length c) ∧ r.length ≤ c ∧ kI.C w' A r.length r ∧ Below w.heap.size w w'
theorem RetI.gets {w : World} {r : List Int} {e : Ending} {w' : World} (h : RetI w r e w') : GetIs w r e w' := by
  obtain ⟨v, rfl, hR, hb⟩ := h
  obtain ⟨A, c, rfl, hc, hC⟩ := Kd.R_reads hR
  exact ⟨A, c, rfl, hc, hC, hb⟩
/-- Bindings and a Bool are handed back. -/
def GetBT (w : World) (r : List Bd) (b : Bool) (e : Ending) (w' : World) : Prop := ∃ A c, e = .returned (.tuple #[.slice A r.length c, .bool b]) ∧ r.length ≤ c ∧ kB.C w' A r.length r ∧ Below w.heap.size w w'
def GetII (w : World) (a b : Int) (e : Ending) (w' : World) : Prop := e = .returned (.tuple #[.int .i64 a, .int .i64 b]) ∧ Below w.heap.size w w'
section
variable {l r : List Bd} {x y : Fm} {f : List Int} {a b id : Int} {t : Bool}
theorem implBdV (h : pB (BdsOk l) = t) (hs : SmB l) (A : Option Addr) (c : Nat) (w : World) (hr : kB.C w A l.length l) (hc : l.length ≤ c) : Calls Try.prog 16 #[.slice A l.length c] w (Ret w (.bool t)) :=
  h ▸ implBinds_any l A c w hr hc (fun b hb => by have := (hs.2 b hb).1; omega)
theorem implVd (h : pB (FmOk x) = t) (A3 : Option Addr) (c3 : Nat) (A4 : Option Addr) (c4 : Nat) (w : World) (hin : FmIn w x A3 c3 A4 c4) (ht : x.tot ≤ 1048576) :
    Calls Try.prog 30 #[.agg #[.int .i64 x.f0, .string x.f1, .int .i64 x.f2, .slice A3 x.f3.length c3, .slice A4 x.f4.length c4]] w (Ret w (.bool t)) := h ▸ implValid_any x A3 c3 A4 c4 w hin ht
theorem implFd (h : findR l x = (a, b)) (hs : SmB l) (ht : x.tot ≤ 1048576) (A : Option Addr) (c : Nat) (A3 : Option Addr) (c3 : Nat) (A4 : Option Addr) (c4 : Nat) (w : World) (hr : kB.C w A l.length l) (hc : l.length ≤ c) (hx : FmIn w x A3 c3 A4 c4) :
    Calls Try.prog 19 #[.slice A l.length c, .agg #[.int .i64 x.f0, .string x.f1, .int .i64 x.f2, .slice A3 x.f3.length c3, .slice A4 x.f4.length c4]] w (GetII w a b) := by
  have := implFind_any l A c x A3 c3 A4 c4 w hr hc hx hs ht
  rw [h] at this
  exact this
theorem implSr (h : sameR l x y = t) (hs : SmB l) (tx : x.tot ≤ 1048576) (ty : y.tot ≤ 1048576) (A : Option Addr) (c : Nat) (A3 : Option Addr) (c3 : Nat) (A4 : Option Addr) (c4 : Nat) (B3 : Option Addr) (d3 : Nat) (B4 : Option Addr) (d4 : Nat) (w : World) (hr : kB.C w A l.length l) (hc : l.length ≤ c) (hx : FmIn w x A3 c3 A4 c4) (hy : FmIn w y B3 d3 B4 d4) :
    Calls Try.prog 28 #[.slice A l.length c, .agg #[.int .i64 x.f0, .string x.f1, .int .i64 x.f2, .slice A3 x.f3.length c3, .slice A4 x.f4.length c4], .agg #[.int .i64 y.f0, .string y.f1, .int .i64 y.f2, .slice B3 y.f3.length d3, .slice B4 y.f4.length d4]] w (Ret w (.bool t)) := h ▸ implSameRef_any l A c x A3 c3 A4 c4 y B3 d3 B4 d4 w hr hc hx hy hs tx ty
theorem specSr (h : sameR l x y = t) (hs : SmB l) (tx : x.tot ≤ 1048576) (ty : y.tot ≤ 1048576) (A : Option Addr) (c : Nat) (A3 : Option Addr) (c3 : Nat) (A4 : Option Addr) (c4 : Nat) (B3 : Option Addr) (d3 : Nat) (B4 : Option Addr) (d4 : Nat) (w : World) (hr : kB.C w A l.length l) (hc : l.length ≤ c) (hx : FmIn w x A3 c3 A4 c4) (hy : FmIn w y B3 d3 B4 d4) :
    Calls Try.prog 29 #[.slice A l.length c, .agg #[.int .i64 x.f0, .string x.f1, .int .i64 x.f2, .slice A3 x.f3.length c3, .slice A4 x.f4.length c4], .agg #[.int .i64 y.f0, .string y.f1, .int .i64 y.f2, .slice B3 y.f3.length d3, .slice B4 y.f4.length d4]] w (Ret w (.bool t)) := h ▸ specSameRef_any l A c x A3 c3 A4 c4 y B3 d3 B4 d4 w hr hc hx hy hs tx ty
section
open Go.Proofs.Ytcbomlmlindjdaa.Q
end
end
/-- A row of bindings of the call's own; what its elements lead to is elder than w0's end. -/
structure RowB (w0 W : World) (l : List Bd) (v : Value) : Prop where
  own : ∃ inner, W.ownsRow w0.heap.size 36 3 v l.length inner ∧ Reps (kB.K w0) 3 l inner
  b : Below w0.heap.size w0 W
theorem RowB.C {w0 W : World} {l : List Bd} {v : Value} (h : RowB w0 W l v) : ∃ A c, v = .slice A l.length c ∧ l.length ≤ c ∧ kB.C W A l.length l := by
  obtain ⟨inner, ho, hr⟩ := h.own
  obtain ⟨A4, c4, e, r4⟩ := own_reads_row (R := kB.K W) ho (hr.imp_ (fun p c hp => kB.K_below h.b hp)) rfl
  subst e
  exact ⟨A4, c4, rfl, own_le ho, r4⟩
theorem RowB.nil {w0 W : World} {g : Nat} (hb : Below w0.heap.size w0 W) (hg : W.heap[g]? = some (.cells #[] 36 (0, 0))) (hge : w0.heap.size ≤ g) : RowB w0 W [] (.slice (some ⟨g, 0, none⟩) 0 0) :=
  ⟨⟨[], ⟨by simp, .inr ⟨g, 0, #[], rfl, hge, hg, Nat.le_refl _, Nat.zero_le _, by simp, by simp⟩⟩, Reps.none _ _⟩, hb⟩
theorem RowB.later {w0 W W1 : World} {l : List Bd} {v : Value} (h : RowB w0 W l v) (hb : Below W.heap.size W W1) : RowB w0 W1 l v := by
  obtain ⟨inner, ho, hr⟩ := h.own
  exact ⟨⟨inner, own_move ho (fun k hk => hb.block k (own_lt ho k hk)), hr⟩, below_step h.b hb⟩
theorem bdIn_K {w : World} {x : Bd} {A : Option Addr} {c : Nat} (h : BdIn w x A c) : kB.K w x [.string x.f0, .slice A x.f1.length c, .int .i64 x.f2] := Q.k36_mk w x h.l1 h.g1
theorem RowB.snoc {w0 w1 : World} {l : List Bd} {v1 : Value} {inner : List Value} {x : Bd} {A : Option Addr} {c : Nat} (hr : Reps (kB.K w0) 3 l inner) (hx : BdIn w0 x A c) (ho : w1.ownsRow w0.heap.size 36 3 v1 (l.length + 1) (inner ++ [.string x.f0, .slice A x.f1.length c, .int .i64 x.f2])) (hb : Below w0.heap.size w0 w1) : RowB w0 w1 (l ++ [x]) v1 :=
  ⟨⟨_, by rw [List.length_append, List.length_singleton]; exact ho, hr.snoc (bdIn_K hx) rfl⟩, hb⟩
end Go.Proofs.Ytcbomlmlindjdaa
end
section
namespace Go.Proofs.Ytcbomlmlindjdaa
open Go.RowKit Go.Proofs.YtcbomlmlindjdaaW.PrintWords Go.Proofs.YtcbomlmlindjdaaW.PrintLast Go.Proofs.YtcbomlmlindjdaaW.PrintMore
set_option linter.unusedVariables false
set_option linter.unusedSimpArgs false
theorem infoBdW : (Try.prog.info? 36).map (fun i => (i.zero, i.size, i.bytes)) = some (some (.agg #[(.string ⟨#[]⟩), (.slice none 0 0), (.int .i64 0)]), 3, 48) := by kernel_rfl
theorem l3Copy_any (l : List Bd) (A : Option Addr) (c : Nat) (w : World) (hr : kB.C w A l.length l) (hc : l.length ≤ c) (hs : SmB l) :
    Calls Try.prog 59 #[.slice A l.length c] w (fun e w' => ∃ B d, e = .returned (.slice B l.length d) ∧ NewB w.heap.size w' l (.slice B l.length d) ∧ Below w.heap.size w w') := by
  obtain ⟨k, hk⟩ := (ev_l3Copy hs).rounds
  refine (Q.spec_l3Copy.calls k A c l _ w hr hc hk).mono ?_
  rintro e w' ⟨v, rfl, hS, hb⟩
  have hn := NewB.ofS hS
  obtain ⟨B, d, rfl, _⟩ := hn.toS
  exact ⟨B, d, rfl, hn, hb⟩
/-- What l3Wrong leaves of the list l, with the draws i and v (at p and p + 1). -/
structure Wr (s : List Int) (l : List Bd) (p : Nat) (i : Nat) (x : Bd) (v : Int) (l' : List Bd) (q : Nat) : Prop where
  h0 : v = 0 → ∃ n, Ev (fun k => Q.spec_l15Rd_num.f k s ((p + 2 : Nat) : Int) [0, 1000, 5]) (n, ((p + 3 : Nat) : Int)) ∧ l' = l.set i ⟨x.f0, x.f1, n⟩ ∧ q = p + 3
  h1 : v = 1 → ∃ n, Ev (fun k => Q.spec_l15Rd_num.f k s ((p + 2 : Nat) : Int) [0, 1, 98]) (n, ((p + 3 : Nat) : Int)) ∧ l' = l.set i ⟨x.f0, x.f1 ++ [n], x.f2⟩ ∧ q = p + 3
  h2 : v = 2 → l' = l ++ [x] ∧ q = p + 2
  h3 : v ≠ 0 → v ≠ 1 → v ≠ 2 → l' = l ∧ q = p + 2
def WrongOk (s : List Int) (l : List Bd) (p : Nat) (l' : List Bd) (q : Nat) : Prop := ∀ (g : Nat) (w0 w : World) (A : Option Addr) (c : Nat), IsRd w0 w g s (p : Int) → Below w0.heap.size w0 w → kB.C w A l.length l → l.length ≤ c →
  Calls Try.prog 40 #[.pointer (some ⟨g, 0, none⟩), .slice A l.length c] w (DrB w0 g s q l' w)
set_option maxHeartbeats 4000000 in
set_option maxRecDepth 100000 in
theorem wrong_none {s : List Int} (p : Nat) : WrongOk s [] p [] p := by
  intro g w0 w A c hi hb hr hc
  have HD := Lib.hid (Dr.new hi hb)
  have t1 : (([] : List Bd).length == 0) = true := rfl
  have t2 : ((([] : List Bd).length : Int) == 0) = true := rfl
  have HC := Lib.hid (l3Copy_any [] A c w hr hc ⟨by simp, by simp⟩)
  clear hi hb hr
  go_enter Try.func40, Try.ntmps40
  go_wp2_with fail
  refine HC.out.mono ?_
  rintro e w1 ⟨B, d, rfl, hn, hb⟩
  have HN := Lib.hid hn.toS'.2
  have HD1 := Lib.hid (HD.out.later hb)
  clear hn hb
  go_wp2_with fail
  go_ret
  exact ⟨B, d, rfl, HN.out, HD1.out.is, HD1.out.b, HD1.out.kp⟩
set_option maxHeartbeats 8000000 in
set_option maxRecDepth 100000 in
theorem wrong_walk {s : List Int} (l : List Bd) (hs : SmB l) (hl2 : l.length ≤ 2000) (hx2 : ∀ b, b ∈ l → b.f1.length ≤ 2000) (p : Nat) (i : Nat) (hi : i < l.length) (v : Int) (l' : List Bd) (q : Nat)
    (e1 : Ev (fun k => Q.spec_l15Rd_pick.f k s (p : Int) (l.length : Int)) ((i : Int), ((p + 1 : Nat) : Int))) (e2 : Ev (fun k => Q.spec_l15Rd_pick.f k s ((p + 1 : Nat) : Int) 20) (v, ((p + 1 + 1 : Nat) : Int))) (hw : Wr s l p i l[i] v l' q) : WrongOk s l p l' q := by
  intro g w0 w A c hi0 hb hr hc
  have HD := Lib.hid (Dr.new hi0 hb)
  have t1 : (l.length == 0) = false := beq_eq_false_iff_ne.mpr (by omega)
  have t2 : ((l.length : Int) == 0) = false := beq_eq_false_iff_ne.mpr (by omega)
  have HC := Lib.hid (l3Copy_any l A c w hr hc hs)
  have HE1 := Lib.hid e1
  have HE2 := Lib.hid e2
  have HWR := Lib.hid hw
  have hx3 := hx2 l[i] (List.getElem_mem hi)
  have HX3 := Lib.hid hx3
  clear hi0 hb hr e1 e2 hw hs hx2 hx3
  go_enter Try.func40, Try.ntmps40
  go_wp2_with fail
  refine HC.out.mono ?_
  rintro e w1 ⟨B, d, rfl, hn, hb⟩
  have HN := Lib.hid hn
  have HD1 := Lib.hid (HD.out.later hb)
  clear hn hb HC HD
  go_wp2_with fail
  refine (pick_at HE1.out g w0 w1 HD1.out.is HD1.out.b).mono ?_
  rintro e w2 ⟨rfl, hi0, hb, hk⟩
  have HN2 := Lib.hid (HN.out.move (fun b h1 h2 => hk.2 b h2 (by have := HD1.out.lt; omega) (by simp)))
  have HD2 := Lib.hid (HD1.out.call hi0 hb hk)
  clear hi0 hb hk HN HD1
  go_wp2_with fail
  refine (pick_at HE2.out g w0 w2 HD2.out.is HD2.out.b).mono ?_
  rintro e w3 ⟨rfl, hi0, hb, hk⟩
  have HN3 := Lib.hid (HN2.out.move (fun b h1 h2 => hk.2 b h2 (by have := HD2.out.lt; omega) (by simp)))
  have HD3 := Lib.hid (HD2.out.call hi0 hb hk)
  clear hi0 hb hk HN2 HD2
  have HSZ := Lib.hid (show w.heap.size ≤ w3.heap.size from HD3.out.size)
  have p1 : (0 : Int) ≤ (i : Int) := by omega
  have p2 : (i : Int) < (l.length : Int) := by omega
  by_cases v0 : v = 0
  · have u0 : (v == 0) = true := beq_iff_eq.mpr v0
    obtain ⟨n, en, rfl, rfl⟩ := HWR.out.h0 v0
    have HEN := Lib.hid en
    clear en v0 HWR
    go_wp2_with fail
    refine (num_lit (l := [0, 1000, 5]) rfl (by simp) HEN.out g w0 w3 HD3.out.is HD3.out.b).mono ?_
    rintro e w4 ⟨rfl, hi0, hb, hk⟩
    have HN4 := Lib.hid (HN3.out.move (fun b h1 h2 => hk.2 b h2 (by have := HD3.out.lt; omega) (by simp)))
    have HD4 := Lib.hid (HD3.out.call hi0 hb hk)
    clear hi0 hb hk HN3 HD3
    obtain ⟨gr, cap, C, d', e, hat⟩ := HN4.out.atI HD4.out.size i hi
    obtain ⟨rfl, rfl⟩ : B = some ⟨gr, 0, none⟩ ∧ d = cap := by injection e with a1 _ a2; exact ⟨a1, a2⟩
    have HAT := Lib.hid hat
    have z2 := hat.c2
    have f2 := hat.fz (i * 3 + 2)
    clear hat e
    have HF := Lib.hid (HAT.out.id_ n).toS'
    have HDF := Lib.hid (HD4.out.put HAT.out.ge (j := i * 3 + 2) (.int .i64 n))
    have HLS := Lib.hid (show (l.set i ⟨l[i].f0, l[i].f1, n⟩).length = l.length from List.length_set)
    go_wp2_with fail
    go_ret
    exact ⟨_, _, by rw [HLS.out]; rfl, HF.out.2, HDF.out.is, HDF.out.b, HDF.out.kp⟩
  have u0 : (v == 0) = false := beq_eq_false_iff_ne.mpr v0
  by_cases v1 : v = 1
  · have u1 : (v == 1) = true := beq_iff_eq.mpr v1
    obtain ⟨n, en, rfl, rfl⟩ := HWR.out.h1 v1
    have HEN := Lib.hid en
    clear en v0 v1 HWR
    obtain ⟨gr, cap, C, d', e, hat⟩ := HN3.out.atI HD3.out.size i hi
    obtain ⟨rfl, rfl⟩ : B = some ⟨gr, 0, none⟩ ∧ d = cap := by injection e with a1 _ a2; exact ⟨a1, a2⟩
    have HAT := Lib.hid hat
    have z1 := hat.c1
    clear e
    have HLS := Lib.hid (fun b : Bd => (List.length_set : (l.set i b).length = l.length))
    have HG := Lib.hid (And.intro hat.ge hat.lt)
    generalize hxe : l[i] = x at HX3 z1
    have HXE := Lib.hid hxe
    clear hxe HAT
    go_wp2_with fail
    have HN := Lib.hid (HN3.out.move (W := w3.drew) (fun b h1 h2 => (below_drew (Below.refl w3.heap.size w3)).block b h2))
    have HD := Lib.hid (HD3.out.later (below_drew (Below.refl _ _)))
    have HSZ2 := Lib.hid (show w3.heap.size ≤ w3.drew.heap.size from Nat.le_refl _)
    have HZ := Lib.hid (show w3.drew.cell? ⟨gr, i * 3 + 1, none⟩ = some (.slice C x.f1.length d') from z1)
    refine start_ (n := 15) (S := (fun W : World => W.cell? ⟨gr, i * 3 + 1, none⟩ = some (.slice C x.f1.length d'))) (ds := [14]) #[false, false, false, false, false, false, false, false, false, false, false, false, false, false, false] (by kernel_rfl) rfl rfl z1 (fun hHeld => ?_)
    clear z1 HN3 HD3 hat
    generalize w3.drew = wd at HD HN HSZ2 HZ hHeld ⊢
    refine pure_ (i := 0) (N := some 30) (v := ?_) (a' := ?_) #[true, false, false, false, false, false, false, false, false, false, false, false, false, false, false] rfl rfl (by kernel_rfl) (fun _ _ _ h => h) (Or.inl ⟨by rfl, ?_⟩) ?_ ?_
    rotate_left
    · intro w'
      go_simp
      with_reducible rfl
    rotate_left
    · simp only [Act.put, List.setIfInBounds_toArray, List.set_cons_zero, List.set_cons_succ, i64_w, i32_w]
      rfl
    refine pure_ (i := 1) (N := some 31) (v := ?_) (a' := ?_) #[true, true, false, false, false, false, false, false, false, false, false, false, false, false, false] rfl rfl (by kernel_rfl) (fun _ _ _ h => h) (Or.inl ⟨by rfl, ?_⟩) ?_ ?_
    rotate_left
    · intro w'
      go_simp
      with_reducible rfl
    rotate_left
    · simp only [Act.put, List.setIfInBounds_toArray, List.set_cons_zero, List.set_cons_succ, i64_w, i32_w]
      rfl
    refine pure_ (i := 2) (N := some 32) (v := ?_) (a' := ?_) #[true, true, true, false, false, false, false, false, false, false, false, false, false, false, false] rfl rfl (by kernel_rfl) (fun _ _ _ h => h) (Or.inl ⟨by rfl, ?_⟩) ?_ ?_
    rotate_left
    · intro w'
      go_simp
      with_reducible rfl
    rotate_left
    · simp only [Act.put, List.setIfInBounds_toArray, List.set_cons_zero, List.set_cons_succ, i64_w, i32_w]
      rfl
    refine pure_ (i := 3) (N := some 33) (v := ?_) (a' := ?_) #[true, true, true, true, false, false, false, false, false, false, false, false, false, false, false] rfl rfl (by kernel_rfl) (fun _ _ _ h => h) (Or.inl ⟨by rfl, ?_⟩) ?_ ?_
    rotate_left
    · intro w'
      go_simp
      with_reducible rfl
    rotate_left
    · simp only [Act.put, List.setIfInBounds_toArray, List.set_cons_zero, List.set_cons_succ, i64_w, i32_w]
      rfl
    refine pure_ (i := 7) (N := some 37) (v := ?_) (a' := ?_) #[true, true, true, true, false, false, false, true, false, false, false, false, false, false, false] rfl rfl (by kernel_rfl) (fun _ _ _ h => h) (Or.inl ⟨by rfl, ?_⟩) ?_ ?_
    rotate_left
    · intro w'
      go_simp
      with_reducible rfl
    rotate_left
    · simp only [Act.put, List.setIfInBounds_toArray, List.set_cons_zero, List.set_cons_succ, i64_w, i32_w]
      rfl
    refine pure_ (i := 4) (N := some 34) (v := ?_) (a' := ?_) #[true, true, true, true, true, false, false, true, false, false, false, false, false, false, false] rfl rfl (by kernel_rfl) (fun _ _ _ h => h) (Or.inl ⟨by rfl, ?_⟩) ?_ ?_
    rotate_left
    · intro w'
      go_simp
      with_reducible rfl
    rotate_left
    · simp only [Act.put, List.setIfInBounds_toArray, List.set_cons_zero, List.set_cons_succ, i64_w, i32_w]
      rfl
    refine pure_ (i := 5) (N := some 35) (v := ?_) (a' := ?_) #[true, true, true, true, true, true, false, true, false, false, false, false, false, false, false] rfl rfl (by kernel_rfl) (fun _ _ _ h => h) (Or.inl ⟨by rfl, ?_⟩) ?_ ?_
    rotate_left
    · intro w'
      go_simp
      with_reducible rfl
    rotate_left
    · simp only [Act.put, List.setIfInBounds_toArray, List.set_cons_zero, List.set_cons_succ, i64_w, i32_w]
      rfl
    refine take_ (i := 6) (N := some 36) (v := ?_) (a' := ?_) #[true, true, true, true, true, true, true, true, false, false, false, false, false, false, false] rfl rfl (by kernel_rfl) (fun _ _ _ h => h) (Or.inl ⟨by rfl, ?_⟩) hHeld ?_ ?_
    rotate_left
    · rintro w' s0
      go_simp
      with_reducible rfl
    rotate_left
    · simp only [Act.put, List.setIfInBounds_toArray, List.set_cons_zero, List.set_cons_succ, i64_w, i32_w]
      rfl
    refine one_ (i := 8) (N := some 38) #[true, true, true, true, true, true, true, true, true, false, false, false, false, false, false] rfl rfl (by kernel_rfl) (by decide) (fun K hK => ?_)
    refine value_ (w1 := ?_) (v := ?_) (by rfl) rfl ?_ ?_
    rotate_left 2
    · go_simp
      constructor
      · rfl
      · rfl
    refine hK.out _ _ (ck0 (below_new wd _) hHeld) (fun hHeld => ?_)
    clear hK K
    refine norm_ (a' := ?_) ?_ ?_
    rotate_left
    · show Act.put _ (some 38) _ = _
      simp only [Act.put, List.setIfInBounds_toArray, List.set_cons_zero, List.set_cons_succ, i64_w, i32_w]
      rfl
    refine one_ (i := 9) (N := some 39) #[true, true, true, true, true, true, true, true, true, true, false, false, false, false, false] rfl rfl (by kernel_rfl) (by decide) (fun K hK => ?_)
    refine goes_ Try.func56 (by kernel_rfl) rfl #[.pointer (some ⟨g, 0, none⟩), .slice (some ⟨wd.heap.size, 0, none⟩) 3 3] (by rfl) rfl rfl (by (try simp only [List.map_toArray, List.map_cons, List.map_nil]); first | done | rfl) ?_
    refine (num_lit (l := [0, 1, 98]) rfl (by simp) HEN.out g w0 wd HD.out.is HD.out.b).mono ?_
    rintro e w4 ⟨rfl, hi0, hb, hk⟩
    refine ⟨_, rfl, ?_⟩
    have HZ4 := Lib.hid ((World.cell?_of_block (w := wd) (hk.2 gr (by have := HG.out.2; have := HSZ2.out; omega) (by have := HD.out.lt; have := HG.out.1; omega) (by simp))).trans HZ.out)
    have HN4 := Lib.hid (HN.out.move (fun b h1 h2 => hk.2 b h2 (by have := HD.out.lt; omega) (by simp)))
    have HD4 := Lib.hid (HD.out.call hi0 hb hk)
    clear hi0 hb hk HN HD
    have HAT := Lib.hid (HN4.out.atC HD4.out.size i hi HXE.out HZ4.out)
    refine hK.out _ _ HZ4.out (fun hHeld => ?_)
    clear hK K
    refine norm_ (a' := ?_) ?_ ?_
    rotate_left
    · show Act.put _ (some 39) _ = _
      simp only [Act.put, List.setIfInBounds_toArray, List.set_cons_zero, List.set_cons_succ, i64_w, i32_w]
      rfl
    refine one_ (i := 10) (N := some 40) #[true, true, true, true, true, true, true, true, true, true, true, false, false, false, false] rfl rfl (by kernel_rfl) (by decide) (fun K hK => ?_)
    refine value_ (w1 := ?_) (v := ?_) (by rfl) rfl ?_ ?_
    rotate_left 2
    · go_simp
      constructor
      · rfl
      · rfl
    refine hK.out _ _ (ck0 (below_new w4 _) HZ4.out) (fun hHeld => ?_)
    clear hK K
    refine norm_ (a' := ?_) ?_ ?_
    rotate_left
    · show Act.put _ (some 40) _ = _
      simp only [Act.put, List.setIfInBounds_toArray, List.set_cons_zero, List.set_cons_succ, i64_w, i32_w]
      rfl
    refine one_ (i := 11) (N := some 41) #[true, true, true, true, true, true, true, true, true, true, true, true, false, false, false] rfl rfl (by kernel_rfl) (by decide) (fun K hK => ?_)
    refine step_append_cells (w0 := w0) (W := w4) w0.heap.size (by rfl) (.tmp 36) (.tmp 40) 27 3 (.int .i64 0) 1 8 rfl Try.underlying27 infoI rfl (by decide) (by omega) (.slice C x.f1.length d') x.f1.length (encI x.f1) [.int .i64 n] rfl rfl rfl (by simp [Value.oneCell']) (own_weaken HAT.out.row HD4.out.b0) HD4.out.b HD4.out.b.size (by have := HX3.out; omega) ?_
    intro v' w8 ho hb8 hg8 hat8
    have ho8 : w8.ownsRow 0 3 1 v' (x.f1 ++ [n]).length (encI (x.f1 ++ [n])) := by
      rw [List.length_append, show encI (x.f1 ++ [n]) = encI x.f1 ++ [.int .i64 n] from by simp [encs]]
      exact own_weaken ho (Nat.zero_le _)
    obtain ⟨A', c', rfl⟩ : ∃ A c, v' = .slice A (x.f1.length + 1) c := by
      rcases ho with ⟨_, ⟨rfl, h0⟩ | ⟨g5, cap, cur, rfl, _⟩⟩
      · exact absurd h0 (by omega)
      · exact ⟨_, _, rfl⟩
    obtain ⟨q1, qf, hN8⟩ := HAT.out.sc_ w8 _ (x.f1 ++ [n]) hg8 ho8 hat8
    have HQ1 := Lib.hid q1
    have HQF := Lib.hid qf
    have HF := Lib.hid hN8.toS'
    have HDF := Lib.hid ((HD4.out.grown hg8 (fun k hk => by have := own_base_of HAT.out.row k hk; omega)).put HAT.out.ge (j := i * 3 + 1) (.slice A' (x.f1.length + 1) c'))
    have HLS := Lib.hid (fun b : Bd => (List.length_set : (l.set i b).length = l.length))
    clear ho hb8 hg8 hat8 ho8 q1 qf hN8
    refine hK.out _ _ HQ1.out (fun hHeld => ?_)
    clear hK K
    refine norm_ (a' := ?_) ?_ ?_
    rotate_left
    · show Act.put _ (some 41) _ = _
      simp only [Act.put, List.setIfInBounds_toArray, List.set_cons_zero, List.set_cons_succ, i64_w, i32_w]
      rfl
    refine pure_ (i := 12) (N := some 42) (v := ?_) (a' := ?_) #[true, true, true, true, true, true, true, true, true, true, true, true, true, false, false] rfl rfl (by kernel_rfl) (fun _ _ _ h => h) (Or.inl ⟨by rfl, ?_⟩) ?_ ?_
    rotate_left
    · intro w'
      go_simp
      with_reducible rfl
    rotate_left
    · simp only [Act.put, List.setIfInBounds_toArray, List.set_cons_zero, List.set_cons_succ, i64_w, i32_w]
      rfl
    refine pure_ (i := 13) (N := some 43) (v := ?_) (a' := ?_) #[true, true, true, true, true, true, true, true, true, true, true, true, true, true, false] rfl rfl (by kernel_rfl) (fun _ _ _ h => h) (Or.inl ⟨by rfl, ?_⟩) ?_ ?_
    rotate_left
    · intro w'
      go_simp
      with_reducible rfl
    rotate_left
    · simp only [Act.put, List.setIfInBounds_toArray, List.set_cons_zero, List.set_cons_succ, i64_w, i32_w]
      rfl
    refine last_ (i := 14) (N := none) #[true, true, true, true, true, true, true, true, true, true, true, true, true, true, true] rfl rfl (by kernel_rfl) (by decide) (fun K hK => ?_)
    have z1 := HQ1.out
    have f1 := HQF.out
    refine skip_ (w1 := ?_) (by rfl) rfl ?_ ?_
    rotate_left
    · go_simp
      rfl
    refine hK.out _ _ ?_
    clear hK K z1 f1
    refine done_ (by kernel_rfl) ?_
    try go_wp2_with fail
    go_ret
    exact ⟨_, _, by rw [HLS.out]; rfl, by rw [HXE.out]; exact HF.out.2, HDF.out.is, HDF.out.b, HDF.out.kp⟩
  have u1 : (v == 1) = false := beq_eq_false_iff_ne.mpr v1
  by_cases v2 : v = 2
  · have u2 : (v == 2) = true := beq_iff_eq.mpr v2
    obtain ⟨rfl, rfl⟩ := HWR.out.h2 v2
    clear v0 v1 v2 HWR
    obtain ⟨inner, fp, ho, ht, hnd, hge⟩ := HN3.out
    obtain ⟨gr, cap, e, hg0, hg1⟩ := ho.form (by omega)
    obtain ⟨rfl, rfl⟩ : B = some ⟨gr, 0, none⟩ ∧ d = cap := by injection e with a1 _ a2; exact ⟨a1, a2⟩
    obtain ⟨ia, v1_, ib, fa, fb, hin, hfp, hil, h1, _⟩ := ht.at2 i hi
    obtain ⟨C, d', rfl, _, _⟩ := own_C h1
    have HH1 := Lib.hid h1
    have HIN := Lib.hid hin
    have HO := Lib.hid ho
    have HT := Lib.hid ht
    have HND := Lib.hid hnd
    have HGE := Lib.hid hge
    have HFP := Lib.hid hfp
    have hoi := ho
    rw [hin] at hoi
    obtain ⟨⟨z0, z1, z2⟩, _, _⟩ := row_put3 hoi hil
    generalize hxe : l[i] = x at HH1 HIN z0 z1 z2 HFP
    have HXE := Lib.hid hxe
    clear e ho ht hnd hge hin hfp h1 hoi hil hg0 hxe HX3 HN3
    go_wp2_with (first | ((with_reducible refine gate_dst (N := 52) rfl ?_); refine print_append_cells (w0 := w0) w0.heap.size rfl (.tmp 46) (.tmp 51) 23 36 (.agg #[(.string ⟨#[]⟩), (.slice none 0 0), (.int .i64 0)]) 3 48 rfl Try.underlying23 infoBdW rfl (by decide) (by omega) (.slice (some ⟨gr, 0, none⟩) l.length d) l.length inner [.string x.f0, .slice C x.f1.length d', .int .i64 x.f2] rfl rfl rfl (by simp [Value.oneCell']) (own_base_ HO.out (fun b hb => by have := HGE.out b (List.mem_append_left _ (obs_mem.2 hb)); have := HD3.out.b0; omega)) HD3.out.b HD3.out.b.size (by omega) ?_; intro v' w8 ho hb8 hg8 hat8))
    have hfpn : ∀ b, b ∈ fp → some b ≠ (Value.slice (some ⟨gr, 0, none⟩) l.length d).ownBlock := fun b hb he => (List.nodup_append.1 HND.out).2.2 b (obs_mem.2 he.symm) b hb rfl
    have hlt := NewB.lt (B := 0) HO.out HT.out
    have ht8 := HT.out.move (w1 := w8) (fun b hb => hg8.block b (hlt b (List.mem_append_right _ hb)) (hfpn b hb))
    have hvf : ∀ b, b ∈ obs (Value.slice C x.f1.length d') → b ∈ fp := fun b hb => by rw [HFP.out]; simp [hb]
    have h18 := own_move (w1 := w8) HH1.out (fun b hb => hg8.block b (hlt b (List.mem_append_right _ (hvf b (obs_mem.2 hb)))) (hfpn b (hvf b (obs_mem.2 hb))))
    have hB8 := ht8.append (BdL.one (b := x) h18)
    have hl8 : (l ++ [x]).length = l.length + 1 := by simp
    obtain ⟨A8, c8, e8, hs8⟩ := BdS.of (B := w.heap.size) (l := l ++ [x]) (by rw [hl8]; exact own_weaken ho (Nat.zero_le _)) hB8 (fun b hb => by
      rcases List.mem_append.1 hb with h | h
      · rcases hat8 with q | ⟨c, q, hc⟩
        · exact HGE.out b (List.mem_append_left _ (obs_mem.2 (q ▸ obs_mem.1 h)))
        · have := obs_mem.1 h
          rw [q] at this
          cases this
          have := HSZ.out
          omega
      · rcases List.mem_append.1 h with h | h
        · exact HGE.out b (List.mem_append_right _ h)
        · exact HGE.out b (List.mem_append_right _ (hvf b h)))
    subst e8
    have HF := Lib.hid (show BdS w.heap.size w8 (l ++ [l[i]]) A8 c8 from by rw [HXE.out]; exact hs8)
    have HDF := Lib.hid (HD3.out.grown hg8 (fun k hk => HGE.out k (List.mem_append_left _ (obs_mem.2 hk))))
    clear ho hb8 hg8 hat8 hfpn hlt ht8 hvf h18 hB8 hs8 hl8 z0 z1 z2
    go_wp2_with fail
    go_ret
    exact ⟨A8, c8, by rw [HXE.out]; rfl, HF.out, HDF.out.is, HDF.out.b, HDF.out.kp⟩
  have u2 : (v == 2) = false := beq_eq_false_iff_ne.mpr v2
  obtain ⟨rfl, rfl⟩ := HWR.out.h3 v0 v1 v2
  have HF := Lib.hid HN3.out.toS'
  clear v0 v1 v2 HWR
  go_wp2_with fail
  go_ret
  exact ⟨_, _, rfl, HF.out.2, HD3.out.is, HD3.out.b, HD3.out.kp⟩
theorem smD_set {n : Nat} {l : List Bd} (h : SmD n l) (i : Nat) {b : Bd} (hb : b.f0.size ≤ n + 1 ∧ b.f1.length ≤ n + 1) : SmD (n + 1) (l.set i b) :=
  ⟨by rw [List.length_set]; have := h.1; omega, fun c hc => by
    rcases List.mem_or_eq_of_mem_set hc with q | q
    · have := h.2 c q; omega
    · rw [q]; exact hb⟩
theorem l3Wrong_ex {s : List Int} (hs : Bts s) (l : List Bd) (n : Nat) (hl : SmD n l) (hn : n ≤ 1000) (p : Nat) (hp : p ≤ 800000) : ∃ (l' : List Bd) (q : Nat), q ≤ p + 3 ∧ SmD (n + 1) l' ∧ WrongOk s l p l' q := by
  by_cases h0 : l = []
  · subst h0
    exact ⟨[], p, by omega, ⟨by simp, by simp⟩, wrong_none p⟩
  have hpos := List.length_pos_iff.2 h0
  have hln := hl.1
  obtain ⟨k, hk, e1⟩ := ev_pick hs p (by omega) (l.length : Int) (by omega)
  obtain ⟨i, rfl⟩ := Int.eq_ofNat_of_zero_le (hk (by omega)).1
  have hi : i < l.length := by have := (hk (by omega)).2; omega
  obtain ⟨v, hv, e2⟩ := ev_pick hs (p + 1) (by omega) 20 (by omega)
  obtain ⟨a, _, ea⟩ := ev_num hs (p + 2) (by omega) [0, 1000, 5] (by simp) (by simp)
  obtain ⟨b, _, eb⟩ := ev_num hs (p + 2) (by omega) [0, 1, 98] (by simp) (by simp)
  have hx := hl.2 _ (List.getElem_mem hi)
  have key := fun l' q hw => wrong_walk l (hl.B (by omega)) (by omega) (fun b hb => by have := hl.2 b hb; omega) p i hi v l' q e1 e2 hw
  by_cases v0 : v = 0
  · exact ⟨_, _, by omega, smD_set hl i ⟨by show l[i].f0.size ≤ _; omega, by show l[i].f1.length ≤ _; omega⟩, key (l.set i ⟨l[i].f0, l[i].f1, a⟩) (p + 3) ⟨fun _ => ⟨a, ea, rfl, rfl⟩, fun h => absurd (v0.symm.trans h) (by decide), fun h => absurd (v0.symm.trans h) (by decide), fun h => absurd v0 h⟩⟩
  by_cases v1 : v = 1
  · exact ⟨_, _, by omega, smD_set hl i ⟨by show l[i].f0.size ≤ _; omega, by show (l[i].f1 ++ [b]).length ≤ _; rw [List.length_append, List.length_singleton]; omega⟩, key (l.set i ⟨l[i].f0, l[i].f1 ++ [b], l[i].f2⟩) (p + 3) ⟨fun h => absurd h v0, fun _ => ⟨b, eb, rfl, rfl⟩, fun h => absurd (v1.symm.trans h) (by decide), fun _ h => absurd v1 h⟩⟩
  by_cases v2 : v = 2
  · exact ⟨_, _, by omega, ⟨by simp; omega, fun c hc => by
      rcases List.mem_append.1 hc with q | q
      · have := hl.2 c q; omega
      · rw [List.mem_singleton.1 q]; omega⟩, key (l ++ [l[i]]) (p + 2) ⟨fun h => absurd h v0, fun h => absurd h v1, fun _ => ⟨rfl, rfl⟩, fun _ _ h => absurd v2 h⟩⟩
  · exact ⟨_, _, by omega, hl.more (by omega), key l (p + 2) ⟨fun h => absurd h v0, fun h => absurd h v1, fun h => absurd h v2, fun _ _ _ => ⟨rfl, rfl⟩⟩⟩
end Go.Proofs.Ytcbomlmlindjdaa
end
