/- A message that came in by value. -/
import Derived.Test.YtcnbgcoklbmdaaaDoorRp1
import Derived.Lib.SmallJoins
namespace Go.Proofs.YtcnbgcoklbmdaaaDoor
open Go.ChangeShapes Go.WideShapes Go.ChangeAt Go.RowKit

theorem lst4 {l : List Value} (h : l.length = 4) : ∃ a b c d, l = [a, b, c, d] := by
  match l, h with
  | [a, b, c, d], _ => exact ⟨a, b, c, d, rfl⟩
theorem cellsM : Tryd.prog.cellsOf 25 = 4 := by kernel_rfl
theorem cellsS : Tryd.prog.cellsOf 9 = 1 := by kernel_rfl
theorem cellsB : Tryd.prog.cellsOf 4 = 1 := by kernel_rfl
theorem cellsU : Tryd.prog.cellsOf 23 = 1 := by kernel_rfl
theorem openMs {H : Type} {enc : TypeId × Value → H} {w : World} {base : Nat} {sp : Nat → Bool} {held : Bool} {fuel : Nat} {cs : List Value} {x : DataW H × List MemPlace}
    (h : DataW.trod enc Tryd.prog w base sp held fuel 25 cs = some x) : ∃ m : MV, cs = m.cells.toList ∧ m.Ok := by
  obtain ⟨xs, n, _, _, hlc, hl, hf⟩ := DataW.trod_struct Tryd.underlying25 h
  rw [cellsM] at hlc
  obtain ⟨a, b, c, d, rfl⟩ := lst4 hlc
  have hl8 : xs.length = 4 := by rw [hl]; rfl
  have h0 : DataW.trod enc Tryd.prog w base sp held n 4 (([a, b, c, d].drop 0).take (Tryd.prog.cellsOf 4)) = xs[0]? := hf 0 _ rfl
  have h1 : DataW.trod enc Tryd.prog w base sp held n 23 (([a, b, c, d].drop 1).take (Tryd.prog.cellsOf 23)) = xs[1]? := hf 1 _ rfl
  have h2 : DataW.trod enc Tryd.prog w base sp held n 23 (([a, b, c, d].drop 2).take (Tryd.prog.cellsOf 23)) = xs[2]? := hf 2 _ rfl
  have h3 : DataW.trod enc Tryd.prog w base sp held n 9 (([a, b, c, d].drop 3).take (Tryd.prog.cellsOf 9)) = xs[3]? := hf 3 _ rfl
  simp only [cellsU, cellsS, cellsB, List.drop_zero, List.drop_succ_cons, List.take_succ_cons, List.take_zero] at h0 h1 h2 h3
  rw [List.getElem?_eq_getElem (by omega)] at h0 h1 h2 h3
  obtain ⟨m0, hm0, _⟩ := DataW.trod_bool Tryd.underlying4 h0
  obtain ⟨m1, hm1, _, g1⟩ := DataW.trod_int Tryd.underlying23 h1
  obtain ⟨m2, hm2, _, g2⟩ := DataW.trod_int Tryd.underlying23 h2
  obtain ⟨s, hs, _, g3⟩ := DataW.trod_string Tryd.underlying9 h3
  simp at hs hm0 hm1 hm2
  have b1 := wf_u32 g1
  have b2 := wf_u32 g2
  exact ⟨⟨m0, m1, m2, s⟩, by simp [MV.cells, hs, hm0, hm1, hm2], ⟨b1.1, Int.lt_of_le_of_lt b1.2 (by omega), b2.1, Int.lt_of_le_of_lt b2.2 (by omega), g3⟩⟩
set_option maxRecDepth 100000 in
theorem openM {H : Type} {enc : TypeId × Value → H} {W : World} {r : Reach} {b : Nat} {v : Value} {d : DataW H} {p : List MemPlace} (hv : Value.okWide Tryd.prog W r b 25 v)
    (h : DataW.Trod enc Tryd.prog W 0 (fun _ => true) true 25 v d p) : ∃ m : MV, v = m.val ∧ m.Ok := by
  obtain ⟨cs, rfl, _⟩ := okWide_struct Tryd.underlying25 hv
  obtain ⟨fuel, hf⟩ := h
  obtain ⟨m, hx, ok⟩ := openMs (by simpa [Value.cells] using hf)
  exact ⟨m, by rw [MV.val, ← Array.toList_inj.1 hx], ok⟩
end Go.Proofs.YtcnbgcoklbmdaaaDoor
