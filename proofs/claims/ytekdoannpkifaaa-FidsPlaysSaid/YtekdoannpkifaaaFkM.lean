/- What Set, Drop, Get and Free do on both sides; things done that came in. -/
import Derived.Test.YtekdoannpkifaaaFkL
import Derived.Test.YtekdoannpkifaaaFidX
import Derived.Deep.Slices
namespace Go.Proofs.Ytekdoannpkifaaa
open Go.ChangeShapes Go.WideShapes Go.ChangeAt Go.RowKit

theorem putF_len (n : Int) (x u : FV) : ∀ (l : List (Int × FV)), lookF l n = some u → (putF l n x).length = l.length := fun l h => by
  obtain ⟨h1, h2⟩ := del_perm x h
  have := h1.length_eq
  have := h2.length_eq
  simp at *
  omega
theorem delF_len (n : Int) (u : FV) (l : List (Int × FV)) (h : lookF l n = some u) : (delF l n).length + 1 = l.length := by
  obtain ⟨h1, _⟩ := del_perm u h
  have := h1.length_eq
  simp at this
  omega
section
variable (w : World) (most : Int) (b8 : Nat) (W : World) (l L : List (Int × FV)) (v8 : Value) (n : Int)
theorem v8_form (h : FPlay w most b8 W l L v8) : ∀ W', Ext W W' → ∃ a c, v8 = .slice a L.length c ∧ PRow W' (w.heap.size + 2) (.slice a L.length c) L := fun W' hW' => by
  obtain ⟨a, c, hv, -⟩ := h.row.form
  exact ⟨a, c, hv, by rw [← hv]; exact h.row.ext hW'⟩
theorem set_both (h : FPlay w most b8 W l L v8) (hl : l.length ≤ 90) (x : FV) :
    ∃ (e : Int) (l' L' : List (Int × FV)), Inv l' L' ∧ l'.length ≤ l.length ∧
      (∀ W', Ext W W' → Calls Try.prog 21 #[.agg #[.int .i64 most, v8], .int .i64 n, x.val] W' fun r w' => ∃ a c, r = .returned (.tuple #[.agg #[.int .i64 most, .slice a L'.length c], .int .i64 e]) ∧ PRow w' (w.heap.size + 2) (.slice a L'.length c) L' ∧ Ext W' w') ∧
      (∀ W', FidW W' (w.heap.size + 1) w.heap.size most l → Calls Try.prog 14 #[.pointer (some ⟨w.heap.size + 1, 0, none⟩), .int .i64 n, x.val] W' fun r w' => r = .returned (.int .i64 e) ∧ FidW w' (w.heap.size + 1) w.heap.size most l' ∧ Upd [w.heap.size + 1, w.heap.size] W' w') := by
  have hLl := h.inv.len
  have hf : w.heap.size + 2 ≤ W.heap.size := by have := lt_of_heap h.box; have := h.far; omega
  rcases firstK (isN n) L with ⟨k, hk, hh, hb⟩ | hno
  · have hlk := h.inv.some hk hh
    refine ⟨0, putF l n x, L.set k (n, x), h.inv.set hk hh x, by rw [putF_len n x _ l hlk]; omega, fun W' hW' => ?_, fun W' hW' => ?_⟩
    · refine (refSet_ok W' _ most v8 L n (h.row.ext hW') (by omega) x k hk hh hb).mono ?_
      rintro r w' ⟨v', rfl, hr, hx⟩
      obtain ⟨a, c, rfl, -⟩ := hr.form
      exact ⟨a, c, rfl, ownsRow_mono hr (by have := hW'.size; omega), hx⟩
    · exact set_ok _ _ _ _ n W' x hW' hlk
  · have hlk := h.inv.none hno
    refine ⟨17, l, L, h.inv, by omega, fun W' hW' => ?_, fun W' hW' => ?_⟩
    · refine (refSet_none W' _ most v8 L n (h.row.ext hW') (by omega) x hno).mono ?_
      rintro r w' ⟨rfl, hx⟩
      obtain ⟨a, c, hv, hr⟩ := v8_form w most b8 W l L v8 h w' (hW'.trans hx)
      exact ⟨a, c, by rw [hv], hr, hx⟩
    · refine (set_none _ _ _ _ n W' x hW' hlk).mono ?_
      rintro r w' ⟨rfl, hx⟩
      exact ⟨rfl, hW'.ext hx, hx.upd _⟩
theorem drop_both (h : FPlay w most b8 W l L v8) (hl : l.length ≤ 90) :
    ∃ (e : Int) (l' L' : List (Int × FV)), Inv l' L' ∧ l'.length ≤ l.length ∧
      (∀ W', Ext W W' → Calls Try.prog 22 #[.agg #[.int .i64 most, v8], .int .i64 n] W' fun r w' => ∃ a c, r = .returned (.tuple #[.agg #[.int .i64 most, .slice a L'.length c], .int .i64 e]) ∧ PRow w' (w.heap.size + 2) (.slice a L'.length c) L' ∧ Ext W' w') ∧
      (∀ W', FidW W' (w.heap.size + 1) w.heap.size most l → Calls Try.prog 12 #[.pointer (some ⟨w.heap.size + 1, 0, none⟩), .int .i64 n] W' fun r w' => r = .returned (.int .i64 e) ∧ FidW w' (w.heap.size + 1) w.heap.size most l' ∧ Upd [w.heap.size + 1, w.heap.size] W' w') := by
  have hLl := h.inv.len
  have hf : w.heap.size + 2 ≤ W.heap.size := by have := lt_of_heap h.box; have := h.far; omega
  rcases firstK (isN n) L with ⟨k, hk, hh, hb⟩ | hno
  · have hlk := h.inv.some hk hh
    refine ⟨0, delF l n, L.eraseIdx k, h.inv.drop hk hh, by have := delF_len n _ l hlk; omega, fun W' hW' => ?_, fun W' hW' => ?_⟩
    · refine (refDrop_ok W' _ most v8 L n (h.row.ext hW') (by omega) k hk hh hb).mono ?_
      rintro r w' ⟨v', rfl, hr, hx⟩
      obtain ⟨a, c, rfl, -⟩ := hr.form
      exact ⟨a, c, rfl, ownsRow_mono hr (by have := hW'.size; omega), hx⟩
    · exact drop_ok _ _ _ _ n W' hW' hlk
  · have hlk := h.inv.none hno
    refine ⟨17, l, L, h.inv, by omega, fun W' hW' => ?_, fun W' hW' => ?_⟩
    · refine (refDrop_none W' _ most v8 L n (h.row.ext hW') (by omega) hno).mono ?_
      rintro r w' ⟨rfl, hx⟩
      obtain ⟨a, c, hv, hr⟩ := v8_form w most b8 W l L v8 h w' (hW'.trans hx)
      exact ⟨a, c, by rw [hv], hr, hx⟩
    · refine (drop_none _ _ _ _ n W' hW' hlk).mono ?_
      rintro r w' ⟨rfl, hx⟩
      exact ⟨rfl, hW'.ext hx, hx.upd _⟩
theorem get_both (h : FPlay w most b8 W l L v8) (hl : l.length ≤ 90) :
    ∃ (e : Int) (x : FV),
      (∀ W', Ext W W' → Calls Try.prog 20 #[.agg #[.int .i64 most, v8], .int .i64 n] W' fun r w' => r = .returned (.tuple #[x.val, .int .i64 e]) ∧ Ext W' w') ∧
      (∀ W', Ext W W' → Calls Try.prog 13 #[.pointer (some ⟨w.heap.size + 1, 0, none⟩), .int .i64 n] W' fun r w' => r = .returned (.tuple #[x.val, .int .i64 e]) ∧ Ext W' w') := by
  have hLl := h.inv.len
  rcases firstK (isN n) L with ⟨k, hk, hh, hb⟩ | hno
  · have hlk := h.inv.some hk hh
    exact ⟨0, L[k].2, fun W' hW' => refGet_some W' _ most v8 L n (h.row.ext hW') (by omega) k hk hh hb _ rfl, fun W' hW' => get_ok _ _ _ _ n W' (h.fid.ext hW') hlk⟩
  · have hlk := h.inv.none hno
    exact ⟨17, FV.zero, fun W' hW' => refGet_none W' _ most v8 L n (h.row.ext hW') (by omega) hno, fun W' hW' => get_none _ _ _ _ n W' (h.fid.ext hW') hlk⟩
theorem free_both (h : FPlay w most b8 W l L v8) (hl : l.length ≤ 90) :
    ∃ (e : Int),
      (∀ W', Ext W W' → Calls Try.prog 24 #[.agg #[.int .i64 most, v8], .int .i64 n] W' fun r w' => r = .returned (.int .i64 e) ∧ Ext W' w') ∧
      (∀ W', Ext W W' → Calls Try.prog 23 #[.pointer (some ⟨w.heap.size + 1, 0, none⟩), .int .i64 n] W' fun r w' => r = .returned (.int .i64 e) ∧ Ext W' w') := by
  have hLl := h.inv.len
  rcases firstK (isN n) L with ⟨k, hk, hh, hb⟩ | hno
  · have hlk := h.inv.some hk hh
    exact ⟨18, fun W' hW' => refFree_busy W' _ most v8 L n (h.row.ext hW') (by omega) k hk hh hb, fun W' hW' => free_busy _ _ _ _ n W' (h.fid.ext hW') hlk⟩
  · have hlk := h.inv.none hno
    exact ⟨_, fun W' hW' => refFree_none W' _ most v8 L n (h.row.ext hW') (by omega) hno _ rfl, fun W' hW' => free_none _ _ _ _ n W' (h.fid.ext hW') hlk _ (by rw [hLl])⟩
end

/-- What is done: what, of which number, with what. -/
structure OW where
  d : Int
  n : Int
  x : FV
instance : Inhabited OW := ⟨⟨0, 0, FV.zero⟩⟩
def OW.cells (o : OW) : Array Value := #[.int .i64 o.d, .int .i64 o.n, .int .i64 o.x.h1, .int .i64 o.x.h2, .int .i64 o.x.u1, .int .i64 o.x.u2, .string o.x.name, .bool o.x.dir, .bool o.x.opn, .int .i64 o.x.mode, .int .i64 o.x.off, .int .i64 o.x.at_]
def OW.ok (o : OW) : Prop := (Lit.int .i64 o.d).wf = true ∧ (Lit.int .i64 o.n).wf = true
/-- The slice value (a, len, cap) holds things done. -/
def IsOs (w : World) (a : Option Addr) (len cap : Nat) (B : Nat → OW) : Prop :=
  len ≤ cap ∧ cap ≤ maxLen ∧ ∀ i, i < len → (B i).ok ∧ ∃ g o, a = some ⟨g, o, none⟩ ∧ ∀ j, j < 12 → w.cell? ⟨g, o + i * 12 + j, none⟩ = (B i).cells[j]?
theorem lst12 {l : List Value} (h : l.length = 12) : ∃ a b r, l = a :: b :: r ∧ r.length = 10 := by
  match l, h with
  | a :: b :: r, h => exact ⟨a, b, r, rfl, by simpa using h⟩
theorem cellsO : Try.prog.cellsOf 52 = 12 := by kernel_rfl
section
variable {H : Type} {enc : TypeId × Value → H} {w : World} {base : Nat} {sp : Nat → Bool} {held : Bool} {fuel : Nat}
theorem openOs {cs : List Value} {x : DataW H × List MemPlace} (h : DataW.trod enc Try.prog w base sp held fuel 52 cs = some x) : ∃ v : OW, v.ok ∧ cs = v.cells.toList := by
  obtain ⟨xs, n, _, _, hlc, hl, hf⟩ := DataW.trod_struct Try.underlying52 h
  rw [cellsO] at hlc
  obtain ⟨a, b, r, rfl, hr⟩ := lst12 hlc
  have hl8 : xs.length = 3 := by rw [hl]; rfl
  have h0 : DataW.trod enc Try.prog w base sp held n 3 (((a :: b :: r).drop 0).take (Try.prog.cellsOf 3)) = xs[0]? := hf 0 _ rfl
  have h1 : DataW.trod enc Try.prog w base sp held n 3 (((a :: b :: r).drop 1).take (Try.prog.cellsOf 3)) = xs[1]? := hf 1 _ rfl
  have h2 : DataW.trod enc Try.prog w base sp held n 39 (((a :: b :: r).drop 2).take (Try.prog.cellsOf 39)) = xs[2]? := hf 2 _ rfl
  simp only [cellsI, cellsX, List.drop_zero, List.drop_succ_cons, List.take_succ_cons, List.take_zero] at h0 h1 h2
  rw [List.take_of_length_le (by omega)] at h2
  rw [List.getElem?_eq_getElem (by omega)] at h0 h1 h2
  obtain ⟨m0, hm0, _, ok0⟩ := DataW.trod_int Try.underlying3 h0
  obtain ⟨m1, hm1, _, ok1⟩ := DataW.trod_int Try.underlying3 h1
  obtain ⟨x, hx⟩ := openXs h2
  simp at hm0 hm1
  exact ⟨⟨m0, m1, x⟩, ⟨ok0, ok1⟩, by rw [hm0, hm1, hx]; rfl⟩
end
theorem IsOs.of_trod {H : Type} {enc : TypeId × Value → H} {W : World} {a : Option Addr} {len cap : Nat} {d : DataW H} {p : List MemPlace}
    (h : DataW.Trod enc Try.prog W 0 (fun _ => true) true 50 (.slice a len cap) d p) : ∃ B, IsOs W a len cap B := by
  obtain ⟨fuel, hf⟩ := h
  rcases Go.Deep.open_slice Try.underlying50 hf with ⟨hcs, _⟩ | ⟨x, l, c, m, n, D, Pl, hcs, _, hl, hm, hmm, _, hel⟩
  · simp [Value.cells] at hcs
    obtain ⟨rfl, rfl, rfl⟩ := hcs
    exact ⟨fun _ => default, by omega, by unfold maxLen; omega, fun i hi => by omega⟩
  · simp [Value.cells] at hcs
    obtain ⟨rfl, rfl, rfl⟩ := hcs
    simp only [if_true] at hmm
    subst hmm
    obtain ⟨B, hB⟩ := Go.Deep.choose_lt (n := len) (p := fun i (v : OW) => v.ok ∧ ∃ g o, x = ⟨g, o, none⟩ ∧ ∀ j, j < 12 → W.cell? ⟨g, o + i * 12 + j, none⟩ = v.cells[j]?) (fun i hi => by
      obtain ⟨cs', h1, h2⟩ := hel i (by omega)
      obtain ⟨v, hv, rfl⟩ := openOs h2
      rw [cellsO] at h1
      obtain ⟨_, _, hat⟩ := World.cells?_some h1
      obtain ⟨g, o, spot⟩ := x
      have hspot : spot = none := by
        have h7 := hel 0 (by omega)
        rw [Nat.zero_mul] at h7
        obtain ⟨cs2, h8, h9⟩ := h7
        obtain ⟨v2, _, rfl⟩ := openOs h9
        rw [cellsO] at h8
        have h10 := World.cell?_spot (((World.cells?_some h8).2.2 0 (by omega)).trans rfl)
        simpa [Addr.add] using h10
      subst hspot
      refine ⟨v, hv, g, o, rfl, fun j hj => ?_⟩
      have q := hat j (by omega)
      rw [add_off, add_off] at q
      exact q.trans (by simp))
    refine ⟨B, hl, hm, fun i hi => ?_⟩
    obtain ⟨h1, g, o, rfl, q⟩ := hB i hi
    exact ⟨h1, g, o, rfl, q⟩
end Go.Proofs.Ytekdoannpkifaaa
