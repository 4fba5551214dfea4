/- A fid that came in by value: its ten cells. -/
import Derived.Test.YtekdoannpkifaaaFid1
import Derived.Lib.SmallJoins
namespace Go.Proofs.Ytekdoannpkifaaa
open Go.ChangeShapes Go.WideShapes Go.ChangeAt Go.RowKit

theorem lst2 {l : List Value} (h : l.length = 2) : ∃ a b, l = [a, b] := by
  match l, h with
  | [a, b], _ => exact ⟨a, b, rfl⟩
theorem lst10 {l : List Value} (h : l.length = 10) : ∃ a b c d e f g i j k, l = [a, b, c, d, e, f, g, i, j, k] := by
  match l, h with
  | [a, b, c, d, e, f, g, i, j, k], _ => exact ⟨a, b, c, d, e, f, g, i, j, k, rfl⟩
theorem cellsX : Try.prog.cellsOf 39 = 10 := by kernel_rfl
theorem cellsH : Try.prog.cellsOf 30 = 2 := by kernel_rfl
theorem cellsI : Try.prog.cellsOf 3 = 1 := by kernel_rfl
theorem cellsS : Try.prog.cellsOf 9 = 1 := by kernel_rfl
theorem cellsB : Try.prog.cellsOf 4 = 1 := by kernel_rfl

section
variable {H : Type} {enc : TypeId × Value → H} {w : World} {base : Nat} {sp : Nat → Bool} {held : Bool} {fuel : Nat}
theorem openH {a b : Value} {x : DataW H × List MemPlace} (h : DataW.trod enc Try.prog w base sp held fuel 30 [a, b] = some x) : ∃ m n : Int, a = .int .i64 m ∧ b = .int .i64 n := by
  obtain ⟨xs, n, _, _, _, hl, hf⟩ := DataW.trod_struct Try.underlying30 h
  have h0 : DataW.trod enc Try.prog w base sp held n 3 (([a, b].drop 0).take (Try.prog.cellsOf 3)) = xs[0]? := hf 0 _ rfl
  have h1 : DataW.trod enc Try.prog w base sp held n 3 (([a, b].drop 1).take (Try.prog.cellsOf 3)) = xs[1]? := hf 1 _ rfl
  simp only [cellsI, List.drop_zero, List.drop_succ_cons, List.take_succ_cons, List.take_zero] at h0 h1
  obtain ⟨y0, hy0⟩ : ∃ y, xs[0]? = some y := by
    have : 0 < xs.length := by rw [hl]; decide
    exact ⟨_, List.getElem?_eq_getElem this⟩
  obtain ⟨y1, hy1⟩ : ∃ y, xs[1]? = some y := by
    have : 1 < xs.length := by rw [hl]; decide
    exact ⟨_, List.getElem?_eq_getElem this⟩
  rw [hy0] at h0
  rw [hy1] at h1
  obtain ⟨m, hm, _⟩ := DataW.trod_int Try.underlying3 h0
  obtain ⟨k, hk, _⟩ := DataW.trod_int Try.underlying3 h1
  simp at hm hk
  exact ⟨m, k, hm, hk⟩
/-- Ten cells that read as a fid are a fid's. -/
theorem openXs {cs : List Value} {x : DataW H × List MemPlace} (h : DataW.trod enc Try.prog w base sp held fuel 39 cs = some x) : ∃ v : FV, cs = v.cells.toList := by
  obtain ⟨xs, n, _, _, hlc, hl, hf⟩ := DataW.trod_struct Try.underlying39 h
  rw [cellsX] at hlc
  obtain ⟨a, b, c, d, e, f, g, i, j, k, rfl⟩ := lst10 hlc
  have hl8 : xs.length = 8 := by rw [hl]; rfl
  have h0 : DataW.trod enc Try.prog w base sp held n 30 (([a, b, c, d, e, f, g, i, j, k].drop 0).take (Try.prog.cellsOf 30)) = xs[0]? := hf 0 _ rfl
  have h1 : DataW.trod enc Try.prog w base sp held n 30 (([a, b, c, d, e, f, g, i, j, k].drop 2).take (Try.prog.cellsOf 30)) = xs[1]? := hf 1 _ rfl
  have h2 : DataW.trod enc Try.prog w base sp held n 9 (([a, b, c, d, e, f, g, i, j, k].drop 4).take (Try.prog.cellsOf 9)) = xs[2]? := hf 2 _ rfl
  have h3 : DataW.trod enc Try.prog w base sp held n 4 (([a, b, c, d, e, f, g, i, j, k].drop 5).take (Try.prog.cellsOf 4)) = xs[3]? := hf 3 _ rfl
  have h4 : DataW.trod enc Try.prog w base sp held n 4 (([a, b, c, d, e, f, g, i, j, k].drop 6).take (Try.prog.cellsOf 4)) = xs[4]? := hf 4 _ rfl
  have h5 : DataW.trod enc Try.prog w base sp held n 3 (([a, b, c, d, e, f, g, i, j, k].drop 7).take (Try.prog.cellsOf 3)) = xs[5]? := hf 5 _ rfl
  have h6 : DataW.trod enc Try.prog w base sp held n 3 (([a, b, c, d, e, f, g, i, j, k].drop 8).take (Try.prog.cellsOf 3)) = xs[6]? := hf 6 _ rfl
  have h7 : DataW.trod enc Try.prog w base sp held n 3 (([a, b, c, d, e, f, g, i, j, k].drop 9).take (Try.prog.cellsOf 3)) = xs[7]? := hf 7 _ rfl
  simp only [cellsI, cellsH, cellsS, cellsB, List.drop_zero, List.drop_succ_cons, List.take_succ_cons, List.take_zero] at h0 h1 h2 h3 h4 h5 h6 h7
  rw [List.getElem?_eq_getElem (by omega)] at h0 h1 h2 h3 h4 h5 h6 h7
  obtain ⟨m0, m1, rfl, rfl⟩ := openH h0
  obtain ⟨m2, m3, rfl, rfl⟩ := openH h1
  obtain ⟨s, hs, _⟩ := DataW.trod_string Try.underlying9 h2
  have h3' := h3
  have h4' := h4
  obtain ⟨m5, hm5, _⟩ := DataW.trod_int Try.underlying3 h5
  obtain ⟨m6, hm6, _⟩ := DataW.trod_int Try.underlying3 h6
  obtain ⟨m7, hm7, _⟩ := DataW.trod_int Try.underlying3 h7
  obtain ⟨b3, hb3, _⟩ := DataW.trod_bool Try.underlying4 h3'
  obtain ⟨b4, hb4, _⟩ := DataW.trod_bool Try.underlying4 h4'
  simp at hs hm5 hm6 hm7 hb3 hb4
  exact ⟨⟨m0, m1, m2, m3, s, b3, b4, m5, m6, m7⟩, by simp [FV.cells, hs, hm5, hm6, hm7, hb3, hb4]⟩
end
theorem openX {H : Type} {enc : TypeId × Value → H} {W : World} {r : Reach} {b : Nat} {v : Value} {d : DataW H} {p : List MemPlace} (hv : Value.okWide Try.prog W r b 39 v)
    (h : DataW.Trod enc Try.prog W 0 (fun _ => true) true 39 v d p) : ∃ x : FV, v = x.val := by
  obtain ⟨cs, rfl, _⟩ := okWide_struct Try.underlying39 hv
  obtain ⟨fuel, hf⟩ := h
  obtain ⟨x, hx⟩ := openXs (by simpa [Value.cells] using hf)
  exact ⟨x, by rw [FV.val, ← FV.cells, ← Array.toList_inj.1 hx]⟩
end Go.Proofs.Ytekdoannpkifaaa
