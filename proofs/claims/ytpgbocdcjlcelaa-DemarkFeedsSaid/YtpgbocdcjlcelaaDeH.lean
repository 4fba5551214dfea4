/- Bytes in pieces: how great a piece is; what is there behind each piece. -/
import Derived.Test.YtpgbocdcjlcelaaDeF
namespace Go.Proofs.Ytpgbocdcjlcelaa
open Go.ChangeShapes Go.WideShapes Go.ChangeAt Go.RowKit

set_option maxHeartbeats 1000000 in
theorem piece_any (a : Option Addr) (n cap : Nat) (ss : List Int) (i : Nat) (hi : i ≤ 1000000) (w : World) (h : IsRow .i64 w a n cap ss) :
    Calls Try.prog 13 #[.slice a n cap, .int .i64 i] w fun r w' => ∃ k : Nat, r = .returned (.int .i64 k) ∧ k ≤ 11 ∧ (i % 9 = 8 → 1 ≤ k) ∧ w = w' := by
  have hl := h.1
  have hcm := h.2.2.1
  have hlc := h.2.1
  unfold maxLen at hcm
  rcases Nat.eq_zero_or_pos n with h0 | h0
  · subst h0
    clear h hl
    by_cases h9 : i % 9 = 8
    · have hq : ((i : Int) % 9 == 8) = true := by simp; omega
      go_enter Try.func13, Try.ntmps13
      go_wp2_with fail
      go_ret
      exact ⟨7, rfl, by omega, by omega, rfl⟩
    · have hq : ((i : Int) % 9 == 8) = false := by simp; omega
      go_enter Try.func13, Try.ntmps13
      go_wp2_with fail
      go_ret
      exact ⟨7, rfl, by omega, by omega, rfl⟩
  · have hm := Nat.mod_lt i h0
    have hd : decide ((0 : Int) < (n : Int)) = true := by simp; omega
    obtain ⟨g, o, rfl, hc⟩ := h.at_ hm
    have hi0 : (0 : Int) ≤ (i : Int) % (n : Int) := by omega
    have hi1 : (i : Int) % (n : Int) < (n : Int) := by omega
    have hi2 : ((i : Int) % (n : Int)).toNat = i % n := by omega
    obtain ⟨k, hk, ha⟩ := around_nat (ss.getD (i % n) 0) 12 (by omega) (by
      have hl2 : i % n < ss.length := by omega
      simp only [List.getD_eq_getElem?_getD, List.getElem?_eq_getElem hl2, Option.getD_some]
      exact h.2.2.2.1 _ (List.getElem_mem hl2))
    have HA := Lib.hid ha
    generalize ss.getD (i % n) 0 = z at *
    clear h hl ha
    by_cases h9 : i % 9 = 8
    · have hq : ((i : Int) % 9 == 8) = true := by simp; omega
      by_cases hk1 : k < 1
      · obtain rfl : k = 0 := by omega
        go_enter Try.func13, Try.ntmps13
        go_wp2_with fail
        refine (HA.out _).mono ?_
        rintro r wb ⟨rfl, rfl⟩
        go_wp2_with fail
        go_ret
        exact ⟨1, rfl, by omega, by omega, rfl⟩
      · go_enter Try.func13, Try.ntmps13
        go_wp2_with fail
        refine (HA.out _).mono ?_
        rintro r wb ⟨rfl, rfl⟩
        go_wp2_with fail
        go_ret
        exact ⟨k, ret_int (by omega), by omega, by omega, rfl⟩
    · have hq : ((i : Int) % 9 == 8) = false := by simp; omega
      go_enter Try.func13, Try.ntmps13
      go_wp2_with fail
      refine (HA.out _).mono ?_
      rintro r wb ⟨rfl, rfl⟩
      go_wp2_with fail
      go_ret
      exact ⟨k, rfl, by omega, by omega, rfl⟩

/-- Rows behind rows. -/
theorem TRows.app {w : World} {b : Nat} {S : List Nat} {v1 v2 : Value} {y1 y2 : List (List Int)} (h1 : TRows w b S v1 y1) (h2 : TRows w b S v2 y2) (hl : y1.length + y2.length ≤ 100000) (hb : b ≤ w.heap.size) :
    ∃ v' w', (Builtin.append_ #[23, 23] 23 #[v1, v2]).run Try.prog w = .ok v' w' ∧ TRows w' b S v' (y1 ++ y2) ∧ Upd v1.ownBlock.toList w w' := by
  obtain ⟨i0, hi, hz0, hz1, hz2⟩ := info_parts infoRow
  obtain ⟨xs1, o1, e1⟩ := h1
  obtain ⟨xs2, o2, e2⟩ := h2
  have hl1 := e1.len
  have hl2 := e2.len
  have app : ∀ {R : Value → List Int → Prop} {a : List Value} {c : List (List Int)} {a' : List Value} {c' : List (List Int)}, Each R a c → Each R a' c' → Each R (a ++ a') (c ++ c') := by
    intro R a c a' c' h h'
    induction h with
    | nil => exact h'
    | cons hx _ ih => exact .cons hx ih
  rcases o2.form with ⟨rfl, h0⟩ | ⟨g2, cap2, cur2, hv2, _, hn2, _, _, _, _⟩
  · subst h0
    have hy : y2 = [] := List.eq_nil_of_length_eq_zero (by simpa using hl2.symm)
    subst hy
    have hv : ∃ A n cp, v1 = .slice A n cp ∧ n ≤ cp := by
      rcases o1.form with ⟨hv, _⟩ | ⟨g, cp, cur, hv, _, hn, _⟩
      · exact ⟨_, _, _, hv, by omega⟩
      · exact ⟨_, _, _, hv, hn⟩
    obtain ⟨A, n, cp, rfl, hle⟩ := hv
    refine ⟨_, _, run_append_nothing w 23 23 23 22 i0 Try.underlying23 hi A n cp hle _ (Src.ofNil w Try.underlying23 0), ?_, Upd.refl _ _⟩
    rw [List.append_nil]
    exact ⟨xs1, o1, e1⟩
  · subst hv2
    obtain ⟨v', w', p1, p2, p3, _⟩ := run_append_own_at (P := Try.prog) w b 23 23 22 i0 _ 1 24 Try.underlying23 hi hz0 hz1 hz2 rfl (by decide) v1 xs1.length xs1 o1 ⟨g2, 0, none⟩ xs2.length cap2 xs2 (by omega)
      (fun j u hj => by
        have hj' := (List.getElem?_eq_some_iff.1 hj).1
        obtain ⟨g3, c3, hv3, _, _, _, _, hc, _⟩ := o2.cell hj'
        simp only [Value.slice.injEq, Option.some.injEq, Addr.mk.injEq] at hv3
        rw [Go.WideShapes.add_plain, Nat.zero_add, hv3.1.1, hc, ← hj, List.getElem?_eq_getElem hj'])
      (by
        intro u hu
        obtain ⟨i, hi2, rfl⟩ := List.getElem_of_mem hu
        exact (e2.get hi2).1.1.one) (by unfold maxLen; omega) (by omega) hb
    have u1 : Upd v1.ownBlock.toList w w' := grown_upd1 p3
    have row : ∀ x y, (OwnRow w b x y ∧ ∀ k ∈ S, x.ownBlock ≠ some k) → OwnRow w' b x y ∧ ∀ k ∈ S, x.ownBlock ≠ some k := fun x y q => ⟨⟨q.1.1.upd u1 (fun k hk => by simp; exact fun e => q.1.1.apart o1 (by decide) hk e), q.1.2⟩, q.2⟩
    refine ⟨v', w', p1, ⟨xs1 ++ xs2, ?_, app (e1.mono row) (e2.mono row)⟩, u1⟩
    unfold Owns
    rw [List.length_append]
    exact p2
/-- What is there when so many bytes of a row have been given. -/
def PFed (w0 wr : World) (m f : Nat) (zs : List Int) (at_ : Nat) (got : Value) : Prop :=
  ∃ vn vr, DW wr w0.heap.size w0.heap.size m f (feed m f (zs.take at_) (St.new, [])).1 vn vr ∧ TRows wr w0.heap.size (foot w0.heap.size vn vr) got (feed m f (zs.take at_) (St.new, [])).2 ∧ Ext w0 wr
theorem PFed.start {w0 w1 : World} {m f : Nat} (h : DW w1 w0.heap.size w0.heap.size m f St.new (.slice none 0 0) (.slice none 0 0)) (hx : Ext w0 w1) (zs : List Int) : PFed w0 w1 m f zs 0 (.slice none 0 0) :=
  ⟨_, _, h, TRows.nil _ _ _, hx⟩
theorem take_cut (zs : List Int) {i j : Nat} (h : i ≤ j) : zs.take j = zs.take i ++ (zs.drop i).take (j - i) := by
  have := List.take_add (l := zs) (i := i) (j := j - i)
  rw [← this]
  congr 1
  omega
theorem piece_feed {w0 wr : World} {m f : Nat} {zs : List Int} {i j : Nat} {got : Value} (h : PFed w0 wr m f zs i got) (hm4 : m ≤ 4096) (hf64 : f ≤ 64) {ga o n cap : Nat} (hr : IsRow .u8 w0 (some ⟨ga, o, none⟩) n cap zs) (hi : i < n) (hij : i ≤ j) (hj : j ≤ n) (hn : n ≤ 5000) :
    Calls Try.prog 14 #[.pointer (some ⟨w0.heap.size, 0, none⟩), .slice (some ⟨ga, o + i, none⟩) (j - i) (cap - i)] wr fun r w' => ∃ v, r = .returned v ∧ ∃ got' w'',
      (Builtin.append_ #[23, 23] 23 #[got, v]).run Try.prog w' = .ok got' w'' ∧ PFed w0 w'' m f zs j got' := by
  obtain ⟨vn, vr, hD, hT, hX⟩ := h
  have hga : ga < w0.heap.size := by
    obtain ⟨g2, o2, e, hc⟩ := hr.at_ (show 0 < n by omega)
    simp only [Option.some.injEq, Addr.mk.injEq] at e
    have := World.block_lt_of_cell? w0 _ hc
    rw [e.1]
    exact this
  have hcut : IsRow .u8 wr (some ⟨ga, o + i, none⟩) (j - i) (cap - i) ((zs.drop i).take (j - i)) :=
    ((hr.cut (by omega) (some ⟨ga, o + i, none⟩) (fun _ => rfl)).head (by omega)).ext hX
  have hll := feed_len m f (zs.take i) (St.new, [])
  have hl0 := hr.1
  rw [List.length_take] at hll
  simp only [List.length_nil, Nat.zero_add] at hll
  refine (feed_any hD (Inv.feed _ (Inv.new m f)) hX.size hm4 hf64 _ _ _ _ hcut (fun g1 o1 e hm => ?_) (by omega)).mono ?_
  · simp only [Option.some.injEq, Addr.mk.injEq] at e
    have := (hD.foot_low hm).1
    omega
  · rintro r w' ⟨v, rfl, vn', vr', hD', hT', hU', hF', hv'⟩
    have hX' : Ext w0 w' := hU'.ext hX (fun k hk => (hD.foot_low hk).1)
    have hl2 := feed_len m f ((zs.drop i).take (j - i)) ((feed m f (zs.take i) (St.new, [])).1, [])
    simp only [List.length_take, List.length_drop, List.length_nil, Nat.zero_add] at hl2
    obtain ⟨got', w'', p1, p2, p3⟩ := (hT.step hD ⟨hD', hU', hF'⟩).app hT' (by omega) hX'.size
    refine ⟨v, rfl, got', w'', p1, vn', vr', ?_, ?_, ?_⟩
    · have e : feed m f (zs.take j) (St.new, []) = feed m f ((zs.drop i).take (j - i)) (feed m f (zs.take i) (St.new, [])) := by rw [take_cut zs hij, feed_app]
      rw [e]
      have e2 := feed_pre m f ((zs.drop i).take (j - i)) (feed m f (zs.take i) (St.new, [])).1 (feed m f (zs.take i) (St.new, [])).2
      rw [e2]
      exact hD'.upd p3 (fun k hk hm => by simp at hm; exact (hT.step hD ⟨hD', hU', hF'⟩).far hD' k hm hk)
    · have e : feed m f (zs.take j) (St.new, []) = feed m f ((zs.drop i).take (j - i)) (feed m f (zs.take i) (St.new, [])) := by rw [take_cut zs hij, feed_app]
      rw [e]
      have e2 := feed_pre m f ((zs.drop i).take (j - i)) (feed m f (zs.take i) (St.new, [])).1 (feed m f (zs.take i) (St.new, [])).2
      rw [e2]
      exact p2
    · exact p3.ext hX' (fun k hk => by
        simp at hk
        obtain ⟨xs, q1, _⟩ := hT
        exact (q1.lt hk).1)
end Go.Proofs.Ytpgbocdcjlcelaa
