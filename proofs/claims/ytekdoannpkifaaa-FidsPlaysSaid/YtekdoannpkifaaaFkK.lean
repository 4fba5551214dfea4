/- The fids and the document's list in memory; a row of numbers that came in. -/
import Derived.Test.YtekdoannpkifaaaFkJ
namespace Go.Proofs.Ytekdoannpkifaaa
open Go.ChangeShapes Go.WideShapes Go.ChangeAt Go.RowKit

/-- The slice value (a, len, cap) holds the integers zs. -/
def IsRow (k : IntKind) (w : World) (a : Option Addr) (len cap : Nat) (zs : List Int) : Prop :=
  zs.length = len ∧ len ≤ cap ∧ cap ≤ maxLen ∧ (∀ z ∈ zs, (Lit.int k z).wf = true) ∧
    (len = 0 ∨ ∃ g o, a = some ⟨g, o, none⟩ ∧ ∀ i, i < len → w.cell? ⟨g, o + i, none⟩ = some (.int k (zs.getD i 0)))
theorem IsRow.of_trod {H : Type} {enc : TypeId × Value → H} {P : Program} {W : World} {t e : TypeId} {k : IntKind} {a : Option Addr} {len cap : Nat} {d : DataW H} {p : List MemPlace}
    (ht : P.underlying t = some (.slice e)) (he : P.underlying e = some (.int k)) (hc : P.cellsOf e = 1)
    (h : DataW.Trod enc P W 0 (fun _ => true) true t (.slice a len cap) d p) : ∃ zs, IsRow k W a len cap zs := by
  obtain ⟨fuel, hf⟩ := h
  rcases open_ints ht he hc hf with ⟨hcs, _⟩ | ⟨x, l, c, zs, hcs, _, hl, hm, hz, _, hcell, hwz⟩
  · simp [Value.cells] at hcs
    obtain ⟨rfl, rfl, rfl⟩ := hcs
    exact ⟨[], rfl, by omega, by unfold maxLen; omega, by simp, .inl rfl⟩
  · simp [Value.cells] at hcs
    obtain ⟨rfl, rfl, rfl⟩ := hcs
    simp only [if_true] at hz
    refine ⟨zs.take len, by simp; omega, hl, hm, fun z hzm => hwz z (List.mem_of_mem_take hzm), ?_⟩
    rcases Nat.eq_zero_or_pos len with h0 | h0
    · exact .inl h0
    · obtain ⟨b, off, rfl, hc2⟩ := ints_at hcell (by omega)
      refine .inr ⟨b, off, rfl, fun i hi => ?_⟩
      have h1 := hc2 i (by omega)
      rw [h1]
      congr 2
      simp [hi]
theorem IsRow.ext {k : IntKind} {w w' : World} {a : Option Addr} {len cap : Nat} {zs : List Int} (h : IsRow k w a len cap zs) (hx : Ext w w') : IsRow k w' a len cap zs := by
  obtain ⟨h1, h2, h3, h4, h5⟩ := h
  refine ⟨h1, h2, h3, h4, ?_⟩
  rcases h5 with h5 | ⟨g, o, h6, h7⟩
  · exact .inl h5
  · exact .inr ⟨g, o, h6, fun i hi => hx.cell (h7 i hi)⟩
theorem IsRow.at_ {k : IntKind} {w : World} {a : Option Addr} {len cap : Nat} {zs : List Int} (h : IsRow k w a len cap zs) {i : Nat} (hi : i < len) :
    ∃ g o, a = some ⟨g, o, none⟩ ∧ w.cell? ⟨g, o + i, none⟩ = some (.int k (zs.getD i 0)) := by
  rcases h.2.2.2.2 with h5 | ⟨g, o, h6, h7⟩
  · omega
  · exact ⟨g, o, h6, h7 i hi⟩

/-- The fids in memory, and the document's. -/
structure FPlay (w : World) (most : Int) (b8 : Nat) (W : World) (l L : List (Int × FV)) (v8 : Value) : Prop where
  fid : FidW W (w.heap.size + 1) w.heap.size most l
  box : W.heap[b8]? = some (.cells #[.int .i64 most, v8] 43 (0, 0))
  row : PRow W (w.heap.size + 2) v8 L
  inv : Inv l L
  ext : Ext w W
  far : w.heap.size + 1 < b8
section
variable {w W W' : World} {most : Int} {b8 : Nat} {l L l' L' : List (Int × FV)} {v8 v8' : Value}
theorem FidW.upd {S : List Nat} {pb mb : Nat} (h : FidW W pb mb most l) (k : Upd S W W') (h1 : pb ∉ S) (h2 : mb ∉ S) : FidW W' pb mb most l := ⟨k.heap h.ptr h1, h.map.upd k h2⟩
theorem FPlay.grow (h : FPlay w most b8 W l L v8) (hx : Ext W W') : FPlay w most b8 W' l L v8 := ⟨h.fid.ext hx, hx.heap h.box, h.row.ext hx, h.inv, h.ext.trans hx, h.far⟩
/-- The document has turned its list and its box; the fids follow. -/
theorem FPlay.two (h : FPlay w most b8 W l L v8) {W3 : World} {base3 : Nat} (hx : Ext W W3) (hr : PRow W3 base3 v8' L') (hb : w.heap.size + 2 ≤ base3) {W4 : World} (hx4 : Ext ((W3.setCell ⟨b8, 0, none⟩ (.int .i64 most)).setCell ⟨b8, 1, none⟩ v8') W4) :
    FidW W4 (w.heap.size + 1) w.heap.size most l ∧ ∀ W5 l', FidW W5 (w.heap.size + 1) w.heap.size most l' → Upd [w.heap.size + 1, w.heap.size] W4 W5 → Inv l' L' → FPlay w most b8 W5 l' L' v8' := by
  have hf := h.far
  have u3 : Upd [b8] W3 ((W3.setCell ⟨b8, 0, none⟩ (.int .i64 most)).setCell ⟨b8, 1, none⟩ v8') := ((Upd.refl [b8] W3).setCell _ _ (by simp)).setCell _ _ (by simp)
  have b3 := hx.heap h.box
  have b4 : ((W3.setCell ⟨b8, 0, none⟩ (.int .i64 most)).setCell ⟨b8, 1, none⟩ v8').heap[b8]? = some (.cells #[.int .i64 most, v8'] 43 (0, 0)) := by
    rw [heap_setCell_same _ _ _ _ _ _ (heap_setCell_same _ _ _ _ _ _ b3)]
    rfl
  have hr' : PRow W3 (w.heap.size + 2) v8' L' := ownsRow_mono hr hb
  have hrow : PRow W4 (w.heap.size + 2) v8' L' := PRow.ext (ownsRow_upd hr' u3 (fun g hg hm => by
    simp at hm; subst hm; exact ownsRow_ne hr' b3 (by decide) hg)) hx4
  have u4 : Upd [b8] W W4 := ((hx.upd _).trans u3).trans (hx4.upd _)
  refine ⟨h.fid.upd u4 (by simp; omega) (by simp; omega), fun W5 l' hm hu hi => ⟨hm, hu.heap (hx4.heap b4) (by simp; omega), ownsRow_upd hrow hu (fun g hg hm => ?_), hi, ?_, hf⟩⟩
  · have := (World.ownsRow.lt hrow g hg).1
    simp at hm
    omega
  · exact ((u4.mono (T := [w.heap.size + 1, w.heap.size, b8]) (by simp)).trans (hu.mono (by simp))).ext h.ext (by simp; omega)
/-- .. takes its list away. -/
theorem FPlay.clear (h : FPlay w most b8 W l L v8) :
    FidW (W.setCell ⟨b8, 1, none⟩ (.slice none 0 0)) (w.heap.size + 1) w.heap.size most l ∧ ∀ W5, FidW W5 (w.heap.size + 1) w.heap.size most [] → Upd [w.heap.size + 1, w.heap.size] (W.setCell ⟨b8, 1, none⟩ (.slice none 0 0)) W5 → FPlay w most b8 W5 [] [] (.slice none 0 0) := by
  have hf := h.far
  have u3 : Upd [b8] W (W.setCell ⟨b8, 1, none⟩ (.slice none 0 0)) := (Upd.refl [b8] W).setCell _ _ (by simp)
  have b4 : (W.setCell ⟨b8, 1, none⟩ (.slice none 0 0)).heap[b8]? = some (.cells #[.int .i64 most, .slice none 0 0] 43 (0, 0)) := by
    rw [heap_setCell_same _ _ _ _ _ _ h.box]
    rfl
  refine ⟨h.fid.upd u3 (by simp; omega) (by simp; omega), fun W5 hm hu => ⟨hm, hu.heap b4 (by simp; omega), PRow.nil _ _, Inv.nil, ?_, hf⟩⟩
  exact ((u3.mono (T := [w.heap.size + 1, w.heap.size, b8]) (by simp)).trans (hu.mono (by simp))).ext h.ext (by simp; omega)
end
theorem around_nat (n : Int) (m : Nat) (hm : 0 < m) (hw : (Lit.int .i64 n).wf = true) : ∃ k : Nat, k < m ∧ ∀ W, Calls Try.prog 8 #[.int .i64 n, .int .i64 m] W fun r w' => r = .returned (.int .i64 k) ∧ W = w' := by
  have hn : -9223372036854775808 ≤ n ∧ n ≤ 9223372036854775807 := by simpa [Lit.wf, IntKind.min, IntKind.max, IntKind.signed, IntKind.bits] using hw
  have hab := arnd_bd n m (by omega)
  obtain ⟨k, hk⟩ := Int.eq_ofNat_of_zero_le hab.1
  exact ⟨k, by omega, fun W => by rw [← hk]; exact around_any n m W (by omega) hn.1 hn.2⟩
/-- What adding does on both sides. -/
theorem add_both (w : World) (most : Int) (b8 : Nat) (W : World) (l L : List (Int × FV)) (v8 : Value) (h : FPlay w most b8 W l L v8) (hl : l.length ≤ 90) (n : Int) (x : FV) :
    ∃ (e : Int) (l' L' : List (Int × FV)), Inv l' L' ∧ l'.length ≤ l.length + 1 ∧ ((l.length : Int) ≤ most → (l'.length : Int) ≤ most) ∧
      (∀ W', Ext W W' → Calls Try.prog 15 #[.agg #[.int .i64 most, v8], .int .i64 n, x.val] W' fun r w' => ∃ a c, r = .returned (.tuple #[.agg #[.int .i64 most, .slice a L'.length c], .int .i64 e]) ∧ PRow w' (w.heap.size + 2) (.slice a L'.length c) L' ∧ Ext W' w') ∧
      (∀ W', FidW W' (w.heap.size + 1) w.heap.size most l → Calls Try.prog 10 #[.pointer (some ⟨w.heap.size + 1, 0, none⟩), .int .i64 n, x.val] W' fun r w' => r = .returned (.int .i64 e) ∧ FidW w' (w.heap.size + 1) w.heap.size most l' ∧ Upd [w.heap.size + 1, w.heap.size] W' w') := by
  have hLl := h.inv.len
  have hf : w.heap.size + 2 ≤ W.heap.size := by have := lt_of_heap h.box; have := h.far; omega
  have same : ∀ W', Ext W W' → ∃ a c, v8 = .slice a L.length c ∧ PRow W' (w.heap.size + 2) (.slice a L.length c) L := fun W' hW' => by
    obtain ⟨a, c, hv, -⟩ := h.row.form
    exact ⟨a, c, hv, by rw [← hv]; exact h.row.ext hW'⟩
  rcases firstK (isN n) L with ⟨k, hk, hh, hb⟩ | hno
  · have hlk := h.inv.some hk hh
    refine ⟨18, l, L, h.inv, by omega, fun h => h, fun W' hW' => ?_, fun W' hW' => ?_⟩
    · refine (refAdd_no W' _ most v8 L n (h.row.ext hW') x 18 rfl (fun W2 h2 => refFree_busy W2 _ most v8 L n ((h.row.ext hW').ext h2) (by omega) k hk hh hb)).mono ?_
      rintro r w' ⟨rfl, hx⟩
      obtain ⟨a, c, hv, hr⟩ := same w' (hW'.trans hx)
      exact ⟨a, c, by rw [hv], hr, hx⟩
    · refine (add_busy _ _ _ _ n W' x hW' hlk).mono ?_
      rintro r w' ⟨rfl, hx⟩
      exact ⟨rfl, hW'.ext hx, hx.upd _⟩
  · have hlk := h.inv.none hno
    by_cases hfull : most ≤ (l.length : Int)
    · refine ⟨5, l, L, h.inv, by omega, fun h => h, fun W' hW' => ?_, fun W' hW' => ?_⟩
      · refine (refAdd_no W' _ most v8 L n (h.row.ext hW') x 5 rfl (fun W2 h2 => ?_)).mono ?_
        · have := refFree_none W2 _ most v8 L n ((h.row.ext hW').ext h2) (by omega) hno true (by rw [hLl]; simpa using hfull)
          simpa using this
        · rintro r w' ⟨rfl, hx⟩
          obtain ⟨a, c, hv, hr⟩ := same w' (hW'.trans hx)
          exact ⟨a, c, by rw [hv], hr, hx⟩
      · refine (add_full _ _ _ _ n W' x hW' hlk hfull).mono ?_
        rintro r w' ⟨rfl, hx⟩
        exact ⟨rfl, hW'.ext hx, hx.upd _⟩
    · obtain ⟨K, hK, hlt, hge⟩ := h.inv.place n
      refine ⟨0, l ++ [(n, x)], insP L K (n, x), h.inv.add hno hlt hge x, by simp, fun _ => by rw [List.length_append]; simp; omega, fun W' hW' => ?_, fun W' hW' => ?_⟩
      · refine (refAdd_ok W' _ most v8 L n (h.row.ext hW') (by omega) x K hK hlt hge (fun W2 h2 => ?_)).mono ?_
        · have := refFree_none W2 _ most v8 L n ((h.row.ext hW').ext h2) (by omega) hno false (by rw [hLl]; simpa using hfull)
          simpa using this
        · rintro r w' ⟨v', rfl, hr, hx⟩
          obtain ⟨a, c, rfl, -⟩ := hr.form
          exact ⟨a, c, rfl, ownsRow_mono hr (by have := hW'.size; omega), hx⟩
      · refine (add_ok _ _ _ _ n W' x hW' hlk (by omega)).mono ?_
        rintro r w' ⟨rfl, hm, hu⟩
        exact ⟨rfl, hm, hu⟩
end Go.Proofs.Ytekdoannpkifaaa
