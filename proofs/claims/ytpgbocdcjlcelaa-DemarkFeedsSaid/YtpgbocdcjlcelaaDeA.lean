/- What one byte does, whatever the state; the records that are told; the walk of Feed. -/
import Derived.Test.YtpgbocdcjlcelaaDe9
namespace Go.Proofs.Ytpgbocdcjlcelaa
open Go.ChangeShapes Go.WideShapes Go.ChangeAt Go.RowKit

section
variable {w : World} {b g m f : Nat} {s : St} {vn vr : Value}
theorem step_call (h : DW w b g m f s vn vr) (hI : Inv m f s) (c : Int) (hc : (Lit.int .u8 c).wf = true) (hb : b ≤ w.heap.size) (hm4 : m ≤ 4096) (hf64 : f ≤ 64) :
    Calls Try.prog (fid s.mode) #[.pointer (some ⟨g, 0, none⟩), .int .u8 c] w fun r w' => ∃ vn' vr', r = .returned (.bool (step m f s c).2) ∧ Stepped w w' b g m f (step m f s c).1 vn vr vn' vr' := by
  obtain ⟨i1, i2, i3, i4, i5, i6⟩ := hI
  by_cases h0 : s.mode = 0
  · have e : step m f s c = stepHead m f s c := by unfold step; rw [if_pos h0]
    rw [e, h0]
    by_cases hn : s.num.length < 3
    · exact head_few h c hc hn hb h0
    · exact head_full h c hc (by omega) hb h0 hm4 hf64 i3 i4
  · by_cases h1 : s.mode = 1
    · have e : step m f s c = stepBody s c := by unfold step; rw [if_neg h0, if_pos h1]
      have := i5 h1
      rw [e, h1]
      exact (body_any h c hc (by omega) hb h1 this.1 (by omega)).mono fun r w' ⟨vr', q1, q2⟩ => ⟨vn, vr', q1, q2⟩
    · have e : step m f s c = (s, false) := by unfold step; rw [if_neg h0, if_neg h1]
      have h2 : s.mode = 2 := by omega
      rw [e, h2]
      exact (forget_any g c w).mono fun r w' ⟨q1, q2⟩ => ⟨vn, vr, q1, by rw [← q2]; exact ⟨h, Upd.refl _ _, fun k hk => .inl hk⟩⟩
end

/-- Rows of the call's own, none of them in S. -/
def TRows (w : World) (b : Nat) (S : List Nat) (v : Value) (yss : List (List Int)) : Prop :=
  ∃ xs, Owns w b 22 v xs ∧ Each (fun x y => OwnRow w b x y ∧ ∀ k ∈ S, x.ownBlock ≠ some k) xs yss
theorem TRows.nil (w : World) (b : Nat) (S : List Nat) : TRows w b S (.slice none 0 0) [] := ⟨[], Owns.nil _ _ _, .nil⟩
theorem TRows.owns {w : World} {b : Nat} {S : List Nat} {v : Value} {yss : List (List Int)} (h : TRows w b S v yss) : OwnsRows w b v yss := by
  obtain ⟨xs, h1, h2⟩ := h
  exact ⟨xs, h1, h2.mono fun x y q => q.1⟩
theorem TRows.ext {w w' : World} {b : Nat} {S : List Nat} {v : Value} {yss : List (List Int)} (h : TRows w b S v yss) (hx : Ext w w') : TRows w' b S v yss := by
  obtain ⟨xs, h1, h2⟩ := h
  exact ⟨xs, h1.ext hx, h2.mono fun x y q => ⟨⟨q.1.1.ext hx, q.1.2⟩, q.2⟩⟩
theorem TRows.sub {w : World} {b : Nat} {S T : List Nat} {v : Value} {yss : List (List Int)} (h : TRows w b S v yss) (hs : ∀ k ∈ T, k ∈ S ∨ w.heap.size ≤ k) : TRows w b T v yss := by
  obtain ⟨xs, h1, h2⟩ := h
  refine ⟨xs, h1, h2.mono fun x y q => ⟨q.1, fun k hk e => ?_⟩⟩
  rcases hs k hk with h3 | h3
  · exact q.2 k h3 e
  · have := (q.1.1.lt e).2; omega
/-- The blocks of S turn, and some more, none of them a row's. -/
theorem TRows.upd {w w' : World} {b : Nat} {S : List Nat} {v : Value} {yss : List (List Int)} (h : TRows w b S v yss) (hu : Upd S w w') (hv : ∀ k, v.ownBlock = some k → k ∉ S) : TRows w' b S v yss := by
  obtain ⟨xs, h1, h2⟩ := h
  exact ⟨xs, h1.upd hu hv, h2.mono fun x y q => ⟨⟨q.1.1.upd hu (fun k hk hm => q.2 k hm hk), q.1.2⟩, q.2⟩⟩
theorem TRows.far {w : World} {b g m f : Nat} {s : St} {vn vr v : Value} {S : List Nat} {yss : List (List Int)} (h : TRows w b S v yss) (hd : DW w b g m f s vn vr) : ∀ k, v.ownBlock = some k → k ∉ foot g vn vr := by
  obtain ⟨xs, h1, _⟩ := h
  intro k hk hm
  rcases foot_or hm with rfl | hm | hm
  · exact own_ne h1 hd.blk (by decide) hk
  · exact h1.apart hd.num (by decide) hk hm
  · exact h1.apart hd.rc (by decide) hk hm
theorem TRows.step {w w' : World} {b g m f : Nat} {s s' : St} {vn vr vn' vr' v : Value} {yss : List (List Int)} (h : TRows w b (foot g vn vr) v yss) (hd : DW w b g m f s vn vr) (hs : Stepped w w' b g m f s' vn vr vn' vr') : TRows w' b (foot g vn' vr') v yss :=
  (h.sub (T := foot g vn vr ++ foot g vn' vr') (fun k hk => by
    rcases List.mem_append.1 hk with hk | hk
    · exact .inl hk
    · exact hs.2.2 k hk)).upd (hs.2.1.mono (fun k hk => List.mem_append.2 (.inl hk))) (fun k hk hm => by
      rcases List.mem_append.1 hm with hm | hm
      · exact h.far hd k hk hm
      · rcases hs.2.2 k hm with h3 | h3
        · exact h.far hd k hk h3
        · obtain ⟨xs, h1, _⟩ := h
          have := (h1.lt hk).2
          omega) |>.sub (fun k hk => .inl (List.mem_append.2 (.inr hk)))
/-- A record is told. -/
theorem told_any {W1 : World} {b g m f : Nat} {s1 : St} {vn1 vr1 v : Value} {L : List (List Int)} (D1 : DW W1 b g m f s1 vn1 vr1) (T1 : TRows W1 b (foot g vn1 vr1) v L) (hb : b ≤ W1.heap.size) (hl : L.length ≤ 10000) :
    ∃ v' W2, (Builtin.append_ #[23, 23] 23 #[v, .slice (some ⟨W1.heap.size, 0, none⟩) 1 1]).run Try.prog (W1.alloc (.cells #[vr1] 22)) = .ok v' W2 ∧
      W2.heap[g]? = some (.cells (dcells g m f s1 vn1 vr1) 52 (0, 0)) ∧ Upd v.ownBlock.toList W1 W2 ∧ (v'.ownBlock = v.ownBlock ∨ v'.ownBlock = some (W1.heap.size + 1)) ∧
      ∀ W3 s', Upd [g] W2 W3 → W3.heap[g]? = some (.cells (dcells g m f s' vn1 (.slice none 0 0)) 52 (0, 0)) → s'.num = s1.num → s'.rc = [] →
        DW W3 b g m f s' vn1 (.slice none 0 0) ∧ TRows W3 b (foot g vn1 (.slice none 0 0)) v' (L ++ [s1.rc]) := by
  have hfar := T1.far D1
  obtain ⟨xs, h1, h2⟩ := T1
  have hlen := h2.len
  obtain ⟨v', W2, p1, p2, p3, p4⟩ := h1.append1 (P := Try.prog) (t := 23) (ty := 23) (.slice none 0 0) 24 Try.underlying23 infoRow rfl vr1 D1.rc.one (by unfold maxLen; omega) (by omega) hb
  have u1 : Upd v.ownBlock.toList W1 W2 := (((Ext.refl W1).alloc _).upd _).trans (grown_upd1 p3)
  have hg2 := u1.heap D1.blk (by simp; exact fun e => hfar g e (foot_g _ _ _))
  have row2 : ∀ x y, OwnRow W1 b x y → OwnRow W2 b x y := fun x y q => ⟨q.1.upd u1 (fun k hk => by simp; exact fun e => q.1.apart h1 (by decide) hk e), q.2⟩
  refine ⟨v', W2, p1, hg2, u1, p4, fun W3 s' hu hg3 es1 es2 => ?_⟩
  have row3 : ∀ x y, OwnRow W2 b x y → OwnRow W3 b x y := fun x y q => ⟨q.1.upd hu (fun k hk => by simp; exact fun e => own_ne q.1 hg2 (by decide) (by rw [hk, e])), q.2⟩
  have hn3 := (row3 _ _ (row2 _ _ ⟨D1.num, D1.wfn⟩))
  have hr3 := (row3 _ _ (row2 _ _ ⟨D1.rc, D1.wfr⟩))
  refine ⟨⟨hg3, by rw [es1]; exact hn3.1, by rw [es2]; exact Owns.nil _ _ _, by simp [Value.ownBlock], by rw [es1]; exact D1.wfn, by rw [es2]; simp, D1.low⟩, xs ++ [vr1], ?_, ?_⟩
  · exact p2.upd hu (fun k hk => by simp; exact fun e => own_ne p2 hg2 (by decide) (by rw [hk, e]))
  · have sub : ∀ k ∈ foot g vn1 (.slice none 0 0), k = g ∨ vn1.ownBlock = some k := fun k hk => by
      rcases foot_or hk with h | h | h
      · exact .inl h
      · exact .inr h
      · simp [Value.ownBlock] at h
    have a1 := h2.mono (S := fun x y => OwnRow W3 b x y ∧ ∀ k ∈ foot g vn1 (.slice none 0 0), x.ownBlock ≠ some k) fun x y q => ⟨row3 _ _ (row2 _ _ q.1), fun k hk => by
      rcases sub k hk with h | h
      · rw [h]; exact q.2 g (foot_g _ _ _)
      · exact q.2 k (foot_n _ h)⟩
    exact a1.snoc ⟨hr3, fun k hk e => by
      rcases sub k hk with h | h
      · rw [h] at e; exact own_ne D1.rc D1.blk (by decide) e
      · exact D1.ne k h e⟩
end Go.Proofs.Ytpgbocdcjlcelaa
