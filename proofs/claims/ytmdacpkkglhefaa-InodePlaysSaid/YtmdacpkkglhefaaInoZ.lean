/- Things done that came in, as the form has them. -/
import Derived.Test.YtmdacpkkglhefaaInoY
import Derived.Test.YtmdacpkkglhefaaIno3
namespace Go.Proofs.Ytmdacpkkglhefaa
open Go.ChangeShapes Go.WideShapes Go.ChangeAt Go.RowKit

theorem lst4 {l : List Value} (h : l.length = 4) : ∃ a b c d, l = [a, b, c, d] := by
  match l, h with
  | [a, b, c, d], _ => exact ⟨a, b, c, d, rfl⟩
theorem cellsO : Try.prog.cellsOf 53 = 4 := by kernel_rfl
theorem cellsHd : Try.prog.cellsOf 29 = 2 := by kernel_rfl
theorem cellsIn : Try.prog.cellsOf 3 = 1 := by kernel_rfl
section
variable {H : Type} {enc : TypeId × Value → H} {w : World} {base : Nat} {sp : Nat → Bool} {held : Bool} {fuel : Nat}
theorem openOs {cs : List Value} {x : DataW H × List MemPlace} (h : DataW.trod enc Try.prog w base sp held fuel 53 cs = some x) : ∃ v : OV, v.ok ∧ cs = [.int .i64 v.d, .int .i64 v.n, .int .i64 v.ino, .int .i64 v.gen] := by
  obtain ⟨xs, n, _, _, hlc, hl, hf⟩ := DataW.trod_struct Try.underlying53 h
  rw [cellsO] at hlc
  obtain ⟨a, b, c, d, rfl⟩ := lst4 hlc
  have hl8 : xs.length = 3 := by rw [hl]; rfl
  have h0 : DataW.trod enc Try.prog w base sp held n 3 (([a, b, c, d].drop 0).take (Try.prog.cellsOf 3)) = xs[0]? := hf 0 _ rfl
  have h1 : DataW.trod enc Try.prog w base sp held n 3 (([a, b, c, d].drop 1).take (Try.prog.cellsOf 3)) = xs[1]? := hf 1 _ rfl
  have h2 : DataW.trod enc Try.prog w base sp held n 29 (([a, b, c, d].drop 2).take (Try.prog.cellsOf 29)) = xs[2]? := hf 2 _ rfl
  simp only [cellsIn, cellsHd, List.drop_zero, List.drop_succ_cons, List.take_succ_cons, List.take_zero] at h0 h1 h2
  rw [List.getElem?_eq_getElem (by omega)] at h0 h1 h2
  obtain ⟨m0, hm0, _, ok0⟩ := DataW.trod_int Try.underlying3 h0
  obtain ⟨m1, hm1, _, ok1⟩ := DataW.trod_int Try.underlying3 h1
  obtain ⟨m2, m3, hm2⟩ := openH h2
  simp at hm0 hm1 hm2
  exact ⟨⟨m0, m1, m2, m3⟩, ⟨ok0, ok1⟩, by simp [hm0, hm1, hm2]⟩
end
instance : Inhabited OV := ⟨⟨0, 0, 0, 0⟩⟩
theorem IsOs.of_trod {H : Type} {enc : TypeId × Value → H} {W : World} {a : Option Addr} {len cap : Nat} {d : DataW H} {p : List MemPlace}
    (h : DataW.Trod enc Try.prog W 0 (fun _ => true) true 48 (.slice a len cap) d p) : ∃ B, IsOs W a len cap B := by
  obtain ⟨fuel, hf⟩ := h
  rcases Go.Deep.open_slice Try.underlying48 hf with ⟨hcs, _⟩ | ⟨x, l, c, m, n, D, Pl, hcs, _, hl, hm, hmm, _, hel⟩
  · simp [Value.cells] at hcs
    obtain ⟨rfl, rfl, rfl⟩ := hcs
    exact ⟨fun _ => default, by omega, by unfold maxLen; omega, fun i hi => by omega⟩
  · simp [Value.cells] at hcs
    obtain ⟨rfl, rfl, rfl⟩ := hcs
    simp only [if_true] at hmm
    subst hmm
    obtain ⟨B, hB⟩ := Go.Deep.choose_lt (n := len) (p := fun i (v : OV) => v.ok ∧ ∃ g o, x = ⟨g, o, none⟩ ∧ W.cell? ⟨g, o + i * 4, none⟩ = some (.int .i64 v.d) ∧ W.cell? ⟨g, o + i * 4 + 1, none⟩ = some (.int .i64 v.n) ∧ W.cell? ⟨g, o + i * 4 + 2, none⟩ = some (.int .i64 v.ino) ∧ W.cell? ⟨g, o + i * 4 + 3, none⟩ = some (.int .i64 v.gen)) (fun i hi => by
      obtain ⟨cs', h1, h2⟩ := hel i (by omega)
      obtain ⟨v, hv, rfl⟩ := openOs h2
      rw [cellsO] at h1
      obtain ⟨_, _, hat⟩ := World.cells?_some h1
      obtain ⟨g, o, spot⟩ := x
      have q0 := hat 0 (by omega)
      have q1 := hat 1 (by omega)
      have q2 := hat 2 (by omega)
      have q3 := hat 3 (by omega)
      have hspot : spot = none := by
        have h5 := World.cell?_spot (q1.trans rfl)
        simp [Addr.add] at h5
        by_cases h6 : i * 4 = 0
        · have h7 := World.cell?_spot (q0.trans rfl)
          simpa [Addr.add, h6] using h7
        · have h7 := hel 0 (by omega)
          rw [Nat.zero_mul] at h7
          obtain ⟨cs2, h8, h9⟩ := h7
          obtain ⟨v2, _, rfl⟩ := openOs h9
          rw [cellsO] at h8
          have h10 := World.cell?_spot (((World.cells?_some h8).2.2 0 (by omega)).trans rfl)
          simpa [Addr.add] using h10
      subst hspot
      rw [add_off, add_off] at q0 q1 q2 q3
      rw [Nat.add_zero] at q0
      exact ⟨v, hv, g, o, rfl, q0.trans rfl, q1.trans rfl, q2.trans rfl, q3.trans rfl⟩)
    refine ⟨B, hl, hm, fun i hi => ?_⟩
    obtain ⟨h1, g, o, rfl, q⟩ := hB i hi
    exact ⟨h1, g, o, rfl, q⟩
end Go.Proofs.Ytmdacpkkglhefaa
