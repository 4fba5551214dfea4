/- Pieces of any size; what is told behind each piece is the document's. -/
import Derived.Test.YtpgbocdcjlcelaaDeL
namespace Go.Proofs.Ytpgbocdcjlcelaa
open Go.ChangeShapes Go.WideShapes Go.ChangeAt Go.RowKit

set_option maxHeartbeats 1000000 in
theorem piece_nat (a : Option Addr) (n cap : Nat) (ss : List Int) (i : Nat) (hi : i ≤ 1000000) (w : World) (h : IsRow .i64 w a n cap ss) :
    ∃ k : Nat, k ≤ 11 ∧ (i % 9 = 8 → 1 ≤ k) ∧ ∀ W, Ext w W → Calls Try.prog 13 #[.slice a n cap, .int .i64 i] W fun r w' => r = .returned (.int .i64 k) ∧ W = w' := by
  have hl := h.1
  have hcm := h.2.2.1
  have hlc := h.2.1
  unfold maxLen at hcm
  rcases Nat.eq_zero_or_pos n with h0 | h0
  · subst h0
    clear h hl
    by_cases h9 : i % 9 = 8
    · have hq : ((i : Int) % 9 == 8) = true := by simp; omega
      refine ⟨7, by omega, by omega, fun W hW => ?_⟩
      go_enter Try.func13, Try.ntmps13
      go_wp2_with fail
      go_ret
      exact ⟨rfl, rfl⟩
    · have hq : ((i : Int) % 9 == 8) = false := by simp; omega
      refine ⟨7, by omega, by omega, fun W hW => ?_⟩
      go_enter Try.func13, Try.ntmps13
      go_wp2_with fail
      go_ret
      exact ⟨rfl, rfl⟩
  · have hm := Nat.mod_lt i h0
    have hd : decide ((0 : Int) < (n : Int)) = true := by simp; omega
    obtain ⟨g, o, rfl, hc⟩ := h.at_ hm
    have hi0 : (0 : Int) ≤ (i : Int) % (n : Int) := by omega
    have hi1 : (i : Int) % (n : Int) < (n : Int) := by omega
    have hi2 : ((i : Int) % (n : Int)).toNat = i % n := by omega
    obtain ⟨k, hk, ha⟩ := around_nat (ss.getD (i % n) 0) 12 (by omega) (by
      have hl2 : i % n < ss.length := by omega
      simp only [List.getD_eq_getElem?_getD, List.getElem?_eq_getElem hl2, Option.getD_some]
      exact h.2.2.2.1 _ (List.getElem_mem hl2))
    have HA := Lib.hid ha
    generalize ss.getD (i % n) 0 = z at *
    clear h hl ha
    by_cases h9 : i % 9 = 8
    · have hq : ((i : Int) % 9 == 8) = true := by simp; omega
      by_cases hk1 : k < 1
      · obtain rfl : k = 0 := by omega
        refine ⟨1, by omega, by omega, fun W hW => ?_⟩
        replace hc := hW.cell hc
        go_enter Try.func13, Try.ntmps13
        go_wp2_with fail
        refine (HA.out _).mono ?_
        rintro r wb ⟨rfl, rfl⟩
        go_wp2_with fail
        go_ret
        exact ⟨rfl, rfl⟩
      · refine ⟨k, by omega, by omega, fun W hW => ?_⟩
        replace hc := hW.cell hc
        go_enter Try.func13, Try.ntmps13
        go_wp2_with fail
        refine (HA.out _).mono ?_
        rintro r wb ⟨rfl, rfl⟩
        go_wp2_with fail
        go_ret
        exact ⟨ret_int (by omega), rfl⟩
    · have hq : ((i : Int) % 9 == 8) = false := by simp; omega
      refine ⟨k, by omega, by omega, fun W hW => ?_⟩
      replace hc := hW.cell hc
      go_enter Try.func13, Try.ntmps13
      go_wp2_with fail
      refine (HA.out _).mono ?_
      rintro r wb ⟨rfl, rfl⟩
      go_wp2_with fail
      go_ret
      exact ⟨rfl, rfl⟩
theorem PFed.ext {w0 wr w' : World} {m f : Nat} {zs : List Int} {i : Nat} {got : Value} (h : PFed w0 wr m f zs i got) (hx : Ext wr w') : PFed w0 w' m f zs i got := by
  obtain ⟨vn, vr, hD, hT, hU⟩ := h
  exact ⟨vn, vr, hD.ext hx, hT.ext hx, hU.trans hx⟩
theorem keep4 {w1 w2 : World} {q0 q1 q2 q3 : Addr} {v0 v1 v2 v3 : Value} (h : w1.cell? q0 = some v0 ∧ w1.cell? q1 = some v1 ∧ w1.cell? q2 = some v2 ∧ w1.cell? q3 = some v3) (hx : Ext w1 w2) :
    w2.cell? q0 = some v0 ∧ w2.cell? q1 = some v1 ∧ w2.cell? q2 = some v2 ∧ w2.cell? q3 = some v3 := by
  obtain ⟨h0, h1, h2, h3⟩ := h
  exact ⟨hx.cell h0, hx.cell h1, hx.cell h2, hx.cell h3⟩
/-- What is asked behind a piece answers as the document does. -/
theorem behind {w0 w6 : World} {m f : Nat} {zs : List Int} {j : Nat} {got : Value} (h : PFed w0 w6 m f zs j got) (hm : m ≤ 4096) (hf : f ≤ 64) (hl : zs.length ≤ 2000) :
    (∀ W, Ext w6 W → Calls Try.prog 17 #[.pointer (some ⟨w0.heap.size, 0, none⟩)] W fun r w' => r = .returned (.int .i64 (ref m f (zs.take j) [] 0 []).e) ∧ W = w') ∧
    (∀ W, Ext w6 W → Calls Try.prog 18 #[.pointer (some ⟨w0.heap.size, 0, none⟩)] W fun r w' => r = .returned (.int .i64 (ref m f (zs.take j) [] 0 []).held) ∧ Ext W w') ∧
    (∀ W, Ext w6 W → Calls Try.prog 19 #[.pointer (some ⟨w0.heap.size, 0, none⟩)] W fun r w' => r = .returned (.bool (ref m f (zs.take j) [] 0 []).clean) ∧ W = w') ∧
    (∀ W vL, Ext w6 W → OwnsRows W w6.heap.size vL (ref m f (zs.take j) [] 0 []).l → ∀ W2, Ext W W2 → Calls Try.prog 16 #[got, vL] W2 fun r w' => r = .returned (.bool true) ∧ Ext W2 w') := by
  obtain ⟨vn, vr, hD, hT, hX⟩ := h
  have hI : Inv m f (feed m f (zs.take j) (St.new, [])).1 := Inv.feed _ (Inv.new m f)
  have hll := feed_len m f (zs.take j) (St.new, [])
  rw [List.length_take] at hll
  simp only [List.length_nil, Nat.zero_add] at hll
  have hO := hT.owns
  rw [← feed_new]
  obtain ⟨i1, i2, i3, i4, _⟩ := hI
  refine ⟨fun W hW => ?_, fun W hW => ?_, fun W hW => ?_, fun W vL hW hL W2 hW2 => ?_⟩
  · exact errno_any (hD.ext hW)
  · exact held_any (hD.ext hW) (by omega) (by omega)
  · exact clean_any (hD.ext hW) (by omega) (by omega)
  · exact sameBytes_own ((hO.ext hW).ext hW2) (hL.ext hW2) (by omega)
end Go.Proofs.Ytpgbocdcjlcelaa
