/- Bytes in pieces, beside another deframer; the walk of the law DemarkCuts. -/
import Derived.Test.YtpgbocdcjlcelaaDeH
namespace Go.Proofs.Ytpgbocdcjlcelaa
open Go.ChangeShapes Go.WideShapes Go.ChangeAt Go.RowKit

/-- Rows behind rows: where they lie. -/
theorem TRows.app2 {w : World} {b : Nat} {S : List Nat} {v1 v2 : Value} {y1 y2 : List (List Int)} (h1 : TRows w b S v1 y1) (h2 : TRows w b S v2 y2) (hl : y1.length + y2.length ≤ 100000) (hb : b ≤ w.heap.size) {c : Nat} (hv1 : ∀ k, v1.ownBlock = some k → c ≤ k) (hc : c ≤ w.heap.size) :
    ∃ v' w', (Builtin.append_ #[23, 23] 23 #[v1, v2]).run Try.prog w = .ok v' w' ∧ TRows w' b S v' (y1 ++ y2) ∧ Upd v1.ownBlock.toList w w' ∧ ∀ k, v'.ownBlock = some k → c ≤ k := by
  obtain ⟨v', w', p1, p2, p3⟩ := h1.app h2 hl hb
  refine ⟨v', w', p1, p2, p3, fun k hk => ?_⟩
  obtain ⟨i0, hi, hz0, hz1, hz2⟩ := info_parts infoRow
  obtain ⟨xs1, o1, e1⟩ := h1
  obtain ⟨xs2, o2, e2⟩ := h2
  have hl1 := e1.len
  have hl2 := e2.len
  rcases o2.form with ⟨rfl, h0⟩ | ⟨g2, cap2, cur2, hv2, _, hn2, _, _, _, _⟩
  · have hv : ∃ A n cp, v1 = .slice A n cp ∧ n ≤ cp := by
      rcases o1.form with ⟨hv, _⟩ | ⟨g, cp, cur, hv, _, hn, _⟩
      · exact ⟨_, _, _, hv, by omega⟩
      · exact ⟨_, _, _, hv, hn⟩
    obtain ⟨A, n, cp, rfl, hle⟩ := hv
    have q := run_append_nothing w 23 23 23 22 i0 Try.underlying23 hi A n cp hle _ (Src.ofNil w Try.underlying23 0)
    rw [q] at p1
    injection p1 with p1 _
    exact hv1 k (by rw [p1]; exact hk)
  · subst hv2
    obtain ⟨v2', w2', q1, _, _, _, q5⟩ := run_append_own_at (P := Try.prog) w b 23 23 22 i0 _ 1 24 Try.underlying23 hi hz0 hz1 hz2 rfl (by decide) v1 xs1.length xs1 o1 ⟨g2, 0, none⟩ xs2.length cap2 xs2 (by omega)
      (fun j u hj => by
        have hj' := (List.getElem?_eq_some_iff.1 hj).1
        obtain ⟨g3, c3, hv3, _, _, _, _, hc, _⟩ := o2.cell hj'
        simp only [Value.slice.injEq, Option.some.injEq, Addr.mk.injEq] at hv3
        rw [Go.WideShapes.add_plain, Nat.zero_add, hv3.1.1, hc, ← hj, List.getElem?_eq_getElem hj'])
      (by
        intro u hu
        obtain ⟨i, hi2, rfl⟩ := List.getElem_of_mem hu
        exact (e2.get hi2).1.1.one) (by unfold maxLen; omega) (by omega) hb
    rw [q1] at p1
    injection p1 with p1 _
    subst p1
    rcases q5 with q5 | q5
    · exact hv1 k (by rw [← q5]; exact hk)
    · rw [q5] at hk
      simp at hk
      omega
/-- What is there when so many bytes of a row have been given, from the world w1 on, in which the deframer was new. -/
def PFed2 (w1 wr : World) (b g m f : Nat) (zs : List Int) (at_ : Nat) (got : Value) : Prop :=
  ∃ vn vr, DW wr b g m f (feed m f (zs.take at_) (St.new, [])).1 vn vr ∧ TRows wr b (foot g vn vr) got (feed m f (zs.take at_) (St.new, [])).2 ∧ Upd [g] w1 wr ∧ (∀ k ∈ foot g vn vr, k = g ∨ w1.heap.size ≤ k) ∧ ∀ k, got.ownBlock = some k → w1.heap.size ≤ k
theorem PFed2.start {w1 : World} {b g m f : Nat} (h : DW w1 b g m f St.new (.slice none 0 0) (.slice none 0 0)) (zs : List Int) : PFed2 w1 w1 b g m f zs 0 (.slice none 0 0) :=
  ⟨_, _, h, TRows.nil _ _ _, Upd.refl _ _, fun k hk => by rcases foot_or hk with h | h | h; exact .inl h; simp [Value.ownBlock] at h; simp [Value.ownBlock] at h, by simp [Value.ownBlock]⟩
theorem piece_feed2 {w1 wr : World} {b g m f : Nat} {zs : List Int} {i j : Nat} {got : Value} (h : PFed2 w1 wr b g m f zs i got) (hm4 : m ≤ 4096) (hf64 : f ≤ 64) (hb : b ≤ w1.heap.size) {ga o n cap : Nat} (hr : IsRow .u8 w1 (some ⟨ga, o, none⟩) n cap zs) (hgag : ga ≠ g) (hi : i < n) (hij : i ≤ j) (hj : j ≤ n) (hn : n ≤ 5000) :
    Calls Try.prog 14 #[.pointer (some ⟨g, 0, none⟩), .slice (some ⟨ga, o + i, none⟩) (j - i) (cap - i)] wr fun r w' => ∃ v, r = .returned v ∧ ∃ got' w'',
      (Builtin.append_ #[23, 23] 23 #[got, v]).run Try.prog w' = .ok got' w'' ∧ PFed2 w1 w'' b g m f zs j got' := by
  obtain ⟨vn, vr, hD, hT, hU, hF, hv⟩ := h
  have hga : ga < w1.heap.size := by
    obtain ⟨g2, o2, e, hc⟩ := hr.at_ (show 0 < n by omega)
    simp only [Option.some.injEq, Addr.mk.injEq] at e
    have := World.block_lt_of_cell? w1 _ hc
    rw [e.1]
    exact this
  have hcut : IsRow .u8 wr (some ⟨ga, o + i, none⟩) (j - i) (cap - i) ((zs.drop i).take (j - i)) :=
    ((hr.cut (by omega) (some ⟨ga, o + i, none⟩) (fun _ => rfl)).head (by omega)).upd2 hU (fun g1 o1 e => by
      simp only [Option.some.injEq, Addr.mk.injEq] at e
      simp
      omega)
  have hll := feed_len m f (zs.take i) (St.new, [])
  have hl0 := hr.1
  rw [List.length_take] at hll
  simp only [List.length_nil, Nat.zero_add] at hll
  refine (feed_any hD (Inv.feed _ (Inv.new m f)) (Nat.le_trans hb hU.size) hm4 hf64 _ _ _ _ hcut (fun g1 o1 e hm => ?_) (by omega)).mono ?_
  · simp only [Option.some.injEq, Addr.mk.injEq] at e
    have := hF _ hm
    omega
  · rintro r w' ⟨v, rfl, vn', vr', hD', hT', hU', hF', hv'⟩
    have hU2 : Upd [g] w1 w' := hU.trans2 hU' (fun k hk => by simpa using hF k hk)
    have hF2 : ∀ k ∈ foot g vn' vr', k = g ∨ w1.heap.size ≤ k := fun k hk => by
      rcases hF' k hk with h1 | h1
      · exact hF k h1
      · have := hU.size; omega
    have hl2 := feed_len m f ((zs.drop i).take (j - i)) ((feed m f (zs.take i) (St.new, [])).1, [])
    simp only [List.length_take, List.length_drop, List.length_nil, Nat.zero_add] at hl2
    obtain ⟨got', w'', p1, p2, p3, p4⟩ := (hT.step hD ⟨hD', hU', hF'⟩).app2 hT' (by omega) (Nat.le_trans hb hU2.size) hv hU2.size
    have e : feed m f (zs.take j) (St.new, []) = feed m f ((zs.drop i).take (j - i)) (feed m f (zs.take i) (St.new, [])) := by rw [take_cut zs hij, feed_app]
    have e2 := feed_pre m f ((zs.drop i).take (j - i)) (feed m f (zs.take i) (St.new, [])).1 (feed m f (zs.take i) (St.new, [])).2
    refine ⟨v, rfl, got', w'', p1, vn', vr', ?_, ?_, hU2.trans2 p3 (fun k hk => .inr (hv k (by simpa using hk))), hF2, p4⟩
    · rw [e, e2]
      exact hD'.upd p3 (fun k hk hm => by simp at hm; exact (hT.step hD ⟨hD', hU', hF'⟩).far hD' k hm hk)
    · rw [e, e2]
      exact p2
theorem PFed2.ext {w1 wr w' : World} {b g m f : Nat} {zs : List Int} {i : Nat} {got : Value} (h : PFed2 w1 wr b g m f zs i got) (hx : Ext wr w') : PFed2 w1 w' b g m f zs i got := by
  obtain ⟨vn, vr, hD, hT, hU, hF, hv⟩ := h
  exact ⟨vn, vr, hD.ext hx, hT.ext hx, hU.trans (hx.upd _), hF, hv⟩
/-- It is there still, when another block has turned. -/
theorem PFed2.other {w1 wr w' : World} {b g g2 m f : Nat} {zs : List Int} {i : Nat} {got : Value} (h : PFed2 w1 wr b g m f zs i got) (hu : Upd [g2] wr w') (hg : g2 ≠ g) (hg2 : g2 < w1.heap.size) {cs : Array Value} (hb : wr.heap[g2]? = some (.cells cs 52 (0, 0))) :
    ∃ vn vr, DW w' b g m f (feed m f (zs.take i) (St.new, [])).1 vn vr ∧ OwnsRows w' b got (feed m f (zs.take i) (St.new, [])).2 := by
  obtain ⟨vn, vr, hD, hT, hU, hF, hv⟩ := h
  refine ⟨vn, vr, hD.upd hu (fun k hk hm => ?_), ?_⟩
  · simp at hm
    have := hF k hk
    omega
  · obtain ⟨xs, o1, e1⟩ := hT
    exact ⟨xs, o1.upd hu (fun k hk hm => by simp at hm; have := hv k hk; omega), e1.mono fun x y q => ⟨q.1.1.upd hu (fun k hk hm => by simp at hm; subst hm; exact own_ne q.1.1 hb (by decide) hk), q.1.2⟩⟩
end Go.Proofs.Ytpgbocdcjlcelaa
