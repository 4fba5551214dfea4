/- Things done that came in, and the number that is asked for: for the law MuxPlays. No conditions. -/
import Derived.Test.YtladpgjhifbphaaMr8
import Derived.Deep.Slices
namespace Go.Proofs.Ytladpgjhifbphaa
open Go.ChangeShapes Go.WideShapes Go.ChangeAt Go.RowKit

theorem around_nat (n : Int) (m : Nat) (hm : 0 < m) (hw : (Lit.int .i64 n).wf = true) : ∃ k : Nat, k < m ∧ ∀ W, Calls Try.prog 9 #[.int .i64 n, .int .i64 m] W fun r w' => r = .returned (.int .i64 k) ∧ W = w' := by
  have hn : -9223372036854775808 ≤ n ∧ n ≤ 9223372036854775807 := by simpa [Lit.wf, IntKind.min, IntKind.max, IntKind.signed, IntKind.bits] using hw
  have hab := arnd_bd n m (by omega)
  obtain ⟨k, hk⟩ := Int.eq_ofNat_of_zero_le hab.1
  exact ⟨k, by omega, fun W => by rw [← hk]; exact around_any n m W (by omega) hn.1 hn.2⟩

/-- What is done: what, of which number told, of which procedure, or of which raw number. -/
structure OV where
  d : Int
  n : Int
  p : Int
  x : Int
instance : Inhabited OV := ⟨⟨0, 0, 0, 0⟩⟩
def OV.ok (o : OV) : Prop := (Lit.int .i64 o.d).wf = true ∧ (Lit.int .i64 o.n).wf = true ∧ (Lit.int .i64 o.p).wf = true ∧ (Lit.int .u32 o.x).wf = true
/-- The slice value (a, len, cap) holds things done. -/
def IsOs (w : World) (a : Option Addr) (len cap : Nat) (B : Nat → OV) : Prop :=
  len ≤ cap ∧ cap ≤ maxLen ∧ ∀ i, i < len → (B i).ok ∧ ∃ g o, a = some ⟨g, o, none⟩ ∧ w.cell? ⟨g, o + i * 4, none⟩ = some (.int .i64 (B i).d) ∧ w.cell? ⟨g, o + i * 4 + 1, none⟩ = some (.int .i64 (B i).n) ∧ w.cell? ⟨g, o + i * 4 + 2, none⟩ = some (.int .i64 (B i).p) ∧ w.cell? ⟨g, o + i * 4 + 3, none⟩ = some (.int .u32 (B i).x)
theorem IsOs.ext {w w' : World} {a : Option Addr} {len cap : Nat} {B : Nat → OV} (h : IsOs w a len cap B) (hx : Ext w w') : IsOs w' a len cap B := by
  refine ⟨h.1, h.2.1, fun i hi => ?_⟩
  obtain ⟨h1, g, o, h2, q0, q1, q2, q3⟩ := h.2.2 i hi
  exact ⟨h1, g, o, h2, hx.cell q0, hx.cell q1, hx.cell q2, hx.cell q3⟩
theorem lst4 {l : List Value} (h : l.length = 4) : ∃ a b c d, l = [a, b, c, d] := by
  match l, h with
  | [a, b, c, d], _ => exact ⟨a, b, c, d, rfl⟩
theorem cellsO : Try.prog.cellsOf 58 = 4 := by kernel_rfl
theorem cellsIn : Try.prog.cellsOf 3 = 1 := by kernel_rfl
theorem cellsU : Try.prog.cellsOf 22 = 1 := by kernel_rfl
section
variable {H : Type} {enc : TypeId × Value → H} {w : World} {base : Nat} {sp : Nat → Bool} {held : Bool} {fuel : Nat}
theorem openOs {cs : List Value} {x : DataW H × List MemPlace} (h : DataW.trod enc Try.prog w base sp held fuel 58 cs = some x) : ∃ v : OV, v.ok ∧ cs = [.int .i64 v.d, .int .i64 v.n, .int .i64 v.p, .int .u32 v.x] := by
  obtain ⟨xs, n, _, _, hlc, hl, hf⟩ := DataW.trod_struct Try.underlying58 h
  rw [cellsO] at hlc
  obtain ⟨a, b, c, d, rfl⟩ := lst4 hlc
  have hl8 : xs.length = 4 := by rw [hl]; rfl
  have h0 : DataW.trod enc Try.prog w base sp held n 3 (([a, b, c, d].drop 0).take (Try.prog.cellsOf 3)) = xs[0]? := hf 0 _ rfl
  have h1 : DataW.trod enc Try.prog w base sp held n 3 (([a, b, c, d].drop 1).take (Try.prog.cellsOf 3)) = xs[1]? := hf 1 _ rfl
  have h2 : DataW.trod enc Try.prog w base sp held n 3 (([a, b, c, d].drop 2).take (Try.prog.cellsOf 3)) = xs[2]? := hf 2 _ rfl
  have h3 : DataW.trod enc Try.prog w base sp held n 22 (([a, b, c, d].drop 3).take (Try.prog.cellsOf 22)) = xs[3]? := hf 3 _ rfl
  simp only [cellsIn, cellsU, List.drop_zero, List.drop_succ_cons, List.take_succ_cons, List.take_zero] at h0 h1 h2 h3
  rw [List.getElem?_eq_getElem (by omega)] at h0 h1 h2 h3
  obtain ⟨m0, hm0, _, ok0⟩ := DataW.trod_int Try.underlying3 h0
  obtain ⟨m1, hm1, _, ok1⟩ := DataW.trod_int Try.underlying3 h1
  obtain ⟨m2, hm2, _, ok2⟩ := DataW.trod_int Try.underlying3 h2
  obtain ⟨m3, hm3, _, ok3⟩ := DataW.trod_int Try.underlying22 h3
  simp at hm0 hm1 hm2 hm3
  exact ⟨⟨m0, m1, m2, m3⟩, ⟨ok0, ok1, ok2, ok3⟩, by simp [hm0, hm1, hm2, hm3]⟩
end
theorem IsOs.of_trod {H : Type} {enc : TypeId × Value → H} {W : World} {a : Option Addr} {len cap : Nat} {d : DataW H} {p : List MemPlace}
    (h : DataW.Trod enc Try.prog W 0 (fun _ => true) true 56 (.slice a len cap) d p) : ∃ B, IsOs W a len cap B := by
  obtain ⟨fuel, hf⟩ := h
  rcases Go.Deep.open_slice Try.underlying56 hf with ⟨hcs, _⟩ | ⟨x, l, c, m, n, D, Pl, hcs, _, hl, hm, hmm, _, hel⟩
  · simp [Value.cells] at hcs
    obtain ⟨rfl, rfl, rfl⟩ := hcs
    exact ⟨fun _ => default, by omega, by unfold maxLen; omega, fun i hi => by omega⟩
  · simp [Value.cells] at hcs
    obtain ⟨rfl, rfl, rfl⟩ := hcs
    simp only [if_true] at hmm
    subst hmm
    obtain ⟨B, hB⟩ := Go.Deep.choose_lt (n := len) (p := fun i (v : OV) => v.ok ∧ ∃ g o, x = ⟨g, o, none⟩ ∧ W.cell? ⟨g, o + i * 4, none⟩ = some (.int .i64 v.d) ∧ W.cell? ⟨g, o + i * 4 + 1, none⟩ = some (.int .i64 v.n) ∧ W.cell? ⟨g, o + i * 4 + 2, none⟩ = some (.int .i64 v.p) ∧ W.cell? ⟨g, o + i * 4 + 3, none⟩ = some (.int .u32 v.x)) (fun i hi => by
      obtain ⟨cs', h1, h2⟩ := hel i (by omega)
      obtain ⟨v, hv, rfl⟩ := openOs h2
      rw [cellsO] at h1
      obtain ⟨_, _, hat⟩ := World.cells?_some h1
      obtain ⟨g, o, spot⟩ := x
      have q0 := hat 0 (by omega)
      have q1 := hat 1 (by omega)
      have q2 := hat 2 (by omega)
      have q3 := hat 3 (by omega)
      have hspot : spot = none := by
        have h5 := World.cell?_spot (q1.trans rfl)
        simp [Addr.add] at h5
        by_cases h6 : i * 4 = 0
        · have h7 := World.cell?_spot (q0.trans rfl)
          simpa [Addr.add, h6] using h7
        · have h7 := hel 0 (by omega)
          rw [Nat.zero_mul] at h7
          obtain ⟨cs2, h8, h9⟩ := h7
          obtain ⟨v2, _, rfl⟩ := openOs h9
          rw [cellsO] at h8
          have h10 := World.cell?_spot (((World.cells?_some h8).2.2 0 (by omega)).trans rfl)
          simpa [Addr.add] using h10
      subst hspot
      rw [add_off, add_off] at q0 q1 q2 q3
      rw [Nat.add_zero] at q0
      exact ⟨v, hv, g, o, rfl, q0.trans rfl, q1.trans rfl, q2.trans rfl, q3.trans rfl⟩)
    refine ⟨B, hl, hm, fun i hi => ?_⟩
    obtain ⟨h1, g, o, rfl, q⟩ := hB i hi
    exact ⟨h1, g, o, rfl, q⟩

/-- The play in memory: the mux, the document's, all numbers told. -/
structure PlayR (w : World) (n b8 : Nat) (v9 : Value) (W : World) (nx : Int) (l : List MC) (hs : List Int) (v8 : Value) : Prop where
  mux : MuxW W (w.heap.size + 1) w.heap.size nx n l
  box : W.heap[b8]? = some (.cells #[.int .u32 nx, .int .i64 n, v8] 54 (0, 0))
  row : CRow W (w.heap.size + 2) v8 l
  all : URow W (w.heap.size + 2) v9 hs
  ext : Ext w W
  far : w.heap.size + 1 < b8
/-- The plain facts. -/
structure PlayI (n i : Nat) (nx : Int) (l : List MC) (hs : List Int) : Prop where
  lo : 0 ≤ nx
  hi : nx < 4294967296
  len : l.length ≤ n
  many : hs.length ≤ i
  all : ∀ x ∈ hs, 0 ≤ x ∧ x < 4294967296
/-- .. behind i things done. -/
def PlayW (w : World) (n b8 i : Nat) (v9 : Value) (W : World) : Prop := ∃ nx l hs v8, PlayR w n b8 v9 W nx l hs v8 ∧ PlayI n i nx l hs
section
variable {w W W' : World} {n b8 : Nat} {v9 v8 v8' v9' : Value} {nx nx' : Int} {l l' : List MC} {hs hs' : List Int}
theorem PlayR.grow (h : PlayR w n b8 v9 W nx l hs v8) (hx : Ext W W') : PlayR w n b8 v9 W' nx l hs v8 :=
  ⟨h.mux.ext hx, hx.heap h.box, h.row.ext hx, h.all.ext hx, h.ext.trans hx, h.far⟩
/-- Both at once: the mux has turned, then the document's box. -/
theorem PlayR.turn (h : PlayR w n b8 v9 W nx l hs v8) (hm : MuxW W' (w.heap.size + 1) w.heap.size nx' n l') (hu : Upd [w.heap.size + 1, w.heap.size, b8] W W') (hr : CRow W' (w.heap.size + 2) v8' l') (hb : W'.heap[b8]? = some (.cells #[.int .u32 nx', .int .i64 n, v8'] 54 (0, 0))) : PlayR w n b8 v9 W' nx' l' hs v8' := by
  have hf := h.far
  refine ⟨hm, hb, hr, ownsRow_upd h.all hu (fun g hg hm => ?_), hu.ext h.ext (by simp; omega), hf⟩
  have h1 := (World.ownsRow.lt h.all g hg).1
  simp at hm
  rcases hm with rfl | rfl | rfl
  · omega
  · omega
  · exact ownsRow_ne h.all h.box (by decide) hg
theorem PlayR.reall (h : PlayR w n b8 v9 W nx l hs v8) (hr : URow W' (w.heap.size + 2) v9' hs') (hu : Upd v9.ownBlock.toList W W') : PlayR w n b8 v9' W' nx l hs' v8 := by
  have hf := h.far
  have hg : ∀ g ∈ v9.ownBlock.toList, w.heap.size + 2 ≤ g := fun g hg => (World.ownsRow.lt h.all g (by simpa using hg)).1
  refine ⟨h.mux.upd hu (fun hm => by have := hg _ hm; omega) (fun hm => by have := hg _ hm; omega), hu.heap h.box (fun hm => ?_), ownsRow_upd h.row hu (fun g hg' hm => ?_), hr, hu.ext h.ext (fun g hm => by have := hg _ hm; omega), hf⟩
  · exact ownsRow_ne h.all h.box (by decide) (by simpa using hm)
  · exact ownsRow_apart h.row h.all (by decide) g hg' (by simpa using hm)
/-- The document has turned its list and its box; the mux follows. -/
theorem PlayR.two (h : PlayR w n b8 v9 W nx l hs v8) {W3 : World} {base3 : Nat} (hx : Ext W W3) (hr : CRow W3 base3 v8' l') (hb : w.heap.size + 2 ≤ base3) {W4 : World} (hx4 : Ext (((W3.setCell ⟨b8, 0, none⟩ (.int .u32 nx')).setCell ⟨b8, 1, none⟩ (.int .i64 n)).setCell ⟨b8, 2, none⟩ v8') W4) :
    MuxW W4 (w.heap.size + 1) w.heap.size nx n l ∧ ∀ W5, MuxW W5 (w.heap.size + 1) w.heap.size nx' n l' → Upd [w.heap.size + 1, w.heap.size] W4 W5 → PlayR w n b8 v9 W5 nx' l' hs v8' := by
  have hf := h.far
  have u3 : Upd [b8] W3 (((W3.setCell ⟨b8, 0, none⟩ (.int .u32 nx')).setCell ⟨b8, 1, none⟩ (.int .i64 n)).setCell ⟨b8, 2, none⟩ v8') := (((Upd.refl [b8] W3).setCell _ _ (by simp)).setCell _ _ (by simp)).setCell _ _ (by simp)
  have b3 := hx.heap h.box
  have b4 : (((W3.setCell ⟨b8, 0, none⟩ (.int .u32 nx')).setCell ⟨b8, 1, none⟩ (.int .i64 n)).setCell ⟨b8, 2, none⟩ v8').heap[b8]? = some (.cells #[.int .u32 nx', .int .i64 n, v8'] 54 (0, 0)) := by
    rw [heap_setCell_same _ _ _ _ _ _ (heap_setCell_same _ _ _ _ _ _ (heap_setCell_same _ _ _ _ _ _ b3))]
    rfl
  have hr' : CRow W3 (w.heap.size + 2) v8' l' := ownsRow_mono hr hb
  have hrow : CRow W4 (w.heap.size + 2) v8' l' := CRow.ext (ownsRow_upd hr' u3 (fun g hg hm => by
    simp at hm; subst hm; exact ownsRow_ne hr' b3 (by decide) hg)) hx4
  have u4 : Upd [b8] W W4 := ((hx.upd _).trans u3).trans (hx4.upd _)
  refine ⟨h.mux.upd u4 (by simp; omega) (by simp; omega), fun W5 hm hu => ?_⟩
  refine h.turn hm ((u4.mono (by simp)).trans (hu.mono (by simp))) (ownsRow_upd hrow hu (fun g hg hm => ?_)) (hu.heap (hx4.heap b4) (by simp; omega))
  have := (World.ownsRow.lt hrow g hg).1
  simp at hm
  omega
/-- .. its next number alone. -/
theorem PlayR.seek (h : PlayR w n b8 v9 W nx l hs v8) (y : Int) :
    MuxW (W.setCell ⟨b8, 0, none⟩ (.int .u32 y)) (w.heap.size + 1) w.heap.size nx n l ∧ ∀ W5, MuxW W5 (w.heap.size + 1) w.heap.size y n l → Upd [w.heap.size + 1, w.heap.size] (W.setCell ⟨b8, 0, none⟩ (.int .u32 y)) W5 → PlayR w n b8 v9 W5 y l hs v8 := by
  have hf := h.far
  have u3 : Upd [b8] W (W.setCell ⟨b8, 0, none⟩ (.int .u32 y)) := (Upd.refl [b8] W).setCell _ _ (by simp)
  have b4 : (W.setCell ⟨b8, 0, none⟩ (.int .u32 y)).heap[b8]? = some (.cells #[.int .u32 y, .int .i64 n, v8] 54 (0, 0)) := by
    rw [heap_setCell_same _ _ _ _ _ _ h.box]
    rfl
  have hrow : CRow (W.setCell ⟨b8, 0, none⟩ (.int .u32 y)) (w.heap.size + 2) v8 l := ownsRow_upd h.row u3 (fun g hg hm => by
    simp at hm; subst hm; exact ownsRow_ne h.row h.box (by decide) hg)
  refine ⟨h.mux.upd u3 (by simp; omega) (by simp; omega), fun W5 hm hu => ?_⟩
  refine h.turn hm ((u3.mono (by simp)).trans (hu.mono (by simp))) (ownsRow_upd hrow hu (fun g hg hm => ?_)) (hu.heap b4 (by simp; omega))
  have := (World.ownsRow.lt hrow g hg).1
  simp at hm
  omega
theorem PlayI.mono {n i j : Nat} {nx : Int} {l : List MC} {hs : List Int} (h : PlayI n i nx l hs) (hij : i ≤ j) : PlayI n j nx l hs := ⟨h.lo, h.hi, h.len, Nat.le_trans h.many hij, h.all⟩
end
theorem keep4e {o w w' : World} {p q r : Addr} {a b c : Value} (h : w.cell? p = some a ∧ w.cell? q = some b ∧ w.cell? r = some c ∧ Ext o w) (hx : Ext w w') : w'.cell? p = some a ∧ w'.cell? q = some b ∧ w'.cell? r = some c ∧ Ext o w' := ⟨hx.cell h.1, hx.cell h.2.1, hx.cell h.2.2.1, h.2.2.2.trans hx⟩

set_option maxRecDepth 100000 in
set_option maxHeartbeats 2000000 in
theorem xid_any (w : World) (base : Nat) (v9 : Value) (hs : List Int) (h : URow w base v9 hs) (hl : hs.length ≤ 1000) (hr : ∀ x ∈ hs, 0 ≤ x ∧ x < 4294967296) (o : OV) (hok : o.ok) :
    ∃ y : Int, (0 ≤ y ∧ y < 4294967296) ∧ ∀ W, Ext w W → Calls Try.prog 23 #[v9, .agg #[.int .i64 o.d, .int .i64 o.n, .int .i64 o.p, .int .u32 o.x]] W fun r w' => r = .returned (.int .u32 y) ∧ Ext W w' := by
  obtain ⟨d, n, p, x⟩ := o
  obtain ⟨ok0, ok1, ok2, ok3⟩ := hok
  simp only at ok0 ok1 ok2 ok3 ⊢
  obtain ⟨k, hk, hka⟩ := around_nat n (hs.length + 1) (by omega) ok1
  obtain ⟨a, c, rfl, hc, hm, hcell⟩ := h.form
  unfold maxLen at hm
  by_cases hkm : k < hs.length
  · obtain ⟨g, rfl, hg, q0, -⟩ := hcell k hkm
    refine ⟨hs[k], hr _ (List.getElem_mem _), fun W hW => ?_⟩
    have q1 := hW.cell q0
    have hgW : g < W.heap.size := Nat.lt_of_lt_of_le hg hW.size
    have HK := Lib.hid (show ∀ W, Calls Try.prog 9 #[.int .i64 n, .int .i64 ((hs.length : Int) + 1)] W fun r w' => r = .returned (.int .i64 k) ∧ W = w' from fun W => by simpa using hka W)
    generalize hs[k] = y at *
    clear hcell hr h hka q0 hg hW
    generalize hs.length = m at *
    have hdk : decide (k < m) = true := by simpa using hkm
    have hne : ((k : Int) == (m : Int)) = false := by simp; omega
    have hk0 : (0 : Int) ≤ (k : Int) := by omega
    have hk1 : (k : Int) < (m : Int) := by omega
    go_enter Try.func23, Try.ntmps23
    go_wp2_with fail
    refine (HK.out _).mono ?_
    rintro r w2 ⟨rfl, rfl⟩
    go_wp2_with fail
    go_ret
    exact ⟨rfl, (Ext.refl W).alloc _⟩
  · obtain rfl : k = hs.length := by omega
    have hx : 0 ≤ x ∧ x ≤ 4294967295 := by simpa [Lit.wf, IntKind.min, IntKind.max, IntKind.signed, IntKind.bits] using ok3
    refine ⟨x, by omega, fun W hW => ?_⟩
    have HK := Lib.hid (show ∀ W, Calls Try.prog 9 #[.int .i64 n, .int .i64 ((hs.length : Int) + 1)] W fun r w' => r = .returned (.int .i64 (hs.length : Nat)) ∧ W = w' from fun W => by simpa using hka W)
    clear hcell hr h hka hW
    generalize hs.length = m at *
    go_enter Try.func23, Try.ntmps23
    go_wp2_with fail
    refine (HK.out _).mono ?_
    rintro r w2 ⟨rfl, rfl⟩
    go_wp2_with fail
    go_ret
    exact ⟨rfl, (Ext.refl W).alloc _⟩
end Go.Proofs.Ytladpgjhifbphaa
