/- The walks of the document's Set, Add and Each. -/
import Derived.Test.YtmdacpkkglhefaaInoR
namespace Go.Proofs.Ytmdacpkkglhefaa.inoI
open Go.ChangeShapes Go.WideShapes Go.ChangeAt Go.RowKit
open Go.Proofs.Ytmdacpkkglhefaa

theorem infoX : (Try.prog.info? 56).map (fun i => (i.zero, i.size, i.bytes)) = some (some (.agg #[.int .i64 0, .int .i64 0, .int .i64 0, .bool false]), 4, 32) := by kernel_rfl
theorem recCells_one (L : List Rec) : ∀ u ∈ recCells L, u.oneCell' = true := by
  intro u hu
  simp only [recCells, List.mem_flatMap, Rec.cells] at hu
  obtain ⟨r, _, h⟩ := hu
  simp at h
  rcases h with rfl | rfl | rfl | rfl <;> rfl
/-- A copy of records, in a row of its own. -/
theorem RecRow.copy {w : World} {base : Nat} {v : Value} {L : List Rec} (h : RecRow w base v L) (hl : L.length ≤ 100) (ty : TypeId) :
    ∃ v' w', (Builtin.append_ #[49, 49] ty #[.slice none 0 0, v]).run Try.prog w = .ok v' w' ∧ RecRow w' w.heap.size v' L ∧ Ext w w' := by
  obtain ⟨v', w', h1, h2, h3, _⟩ := own_append (P := Try.prog) (t := 49) (ty := ty) Try.underlying49 infoX rfl (by decide) (World.ownsRow_nil w w.heap.size 56 4) (own_src h (recCells_one L)) (by unfold maxLen; omega) (by omega) (Nat.le_refl _)
  refine ⟨v', w', h1, ?_, upd_nil_ext h3⟩
  simpa [RecRow] using h2
theorem RecRow.push {w : World} {base : Nat} {v : Value} {L : List Rec} (h : RecRow w base v L) (hl : L.length ≤ 100000) (hb : base ≤ w.heap.size) (r : Rec) (ty : TypeId) :
    ∃ v' w', (Builtin.append_ #[49, 49] ty #[v, .slice (some ⟨w.heap.size, 0, none⟩) 1 1]).run Try.prog (w.alloc (.cells #[.int .i64 r.ino, .int .i64 r.gen, .int .i64 r.n, .bool r.is] 56)) = .ok v' w' ∧ RecRow w' base v' (L ++ [r]) ∧ Upd v.ownBlock.toList w w' := by
  have hx := (Ext.refl w).alloc (.cells #[.int .i64 r.ino, .int .i64 r.gen, .int .i64 r.n, .bool r.is] 56)
  obtain ⟨v', w', h1, h2, h3, _⟩ := own_append (P := Try.prog) (t := 49) (ty := ty) Try.underlying49 infoX rfl (by decide) (ownsRow_ext h hx) (src_new w 4 #[.int .i64 r.ino, .int .i64 r.gen, .int .i64 r.n, .bool r.is] 56 rfl (by simp [Value.oneCell'])) (by unfold maxLen; omega) (by omega) (by simp; omega)
  refine ⟨v', w', h1, ?_, (hx.upd _).trans h3⟩
  unfold RecRow
  rw [recCells_snoc, List.length_append]
  exact h2
theorem alloc3' (w : World) (A B C : Obj) : (((w.alloc A).alloc B).alloc C).heap[w.heap.size]? = some A ∧ (((w.alloc A).alloc B).alloc C).heap[w.heap.size + 1]? = some B ∧ (((w.alloc A).alloc B).alloc C).heap[w.heap.size + 1 + 1]? = some C := alloc3 w A B C

set_option maxRecDepth 100000 in
set_option maxHeartbeats 2000000 in
theorem refSet_no (w : World) (base : Nat) (most : Int) (v : Value) (L : List Rec) (h : RecRow w base v L) (hl : L.length ≤ 100) (ino gen x : Int) (b : Bool) (hb : ∀ j (hj : j < L.length), hit ino gen L[j] = false) :
    Calls Try.prog 19 #[.agg #[.int .i64 most, v], .agg #[.int .i64 ino, .int .i64 gen], .int .i64 x, .bool b] w fun r w' => r = .returned (.tuple #[.agg #[.int .i64 most, v], .int .i64 8]) ∧ Ext w w' := by
  have HF := Lib.hid (fun W (hW : Ext w W) => refFind_none W base most v L (h.ext hW) hl ino gen hb)
  obtain ⟨a, cap, rfl, -⟩ := h.form
  clear h hb
  generalize L.length = n at *
  go_enter Try.func19, Try.ntmps19
  go_wp2_with fail
  refine (HF.out _ ((((Ext.refl w).alloc _).alloc _).alloc _)).mono ?_
  rintro r w1 ⟨rfl, hx⟩
  have h3 := alloc3' w (.cells #[.int .i64 most, .slice a n cap] 51) (.cells #[.int .i64 ino, .int .i64 gen] 29) (.cells #[.int .i64 0, .slice none 0 0] 51)
  have hb0 := hx.heap h3.1
  have hb2 := hx.heap h3.2.2
  obtain ⟨s0, s1, _, _⟩ := blk2 hb0
  obtain ⟨t0, t1, t2, t3⟩ := blk2 hb2
  have hz := lt_of_heap hb2
  have HX := Lib.hid (show Ext w ((w1.setCell ⟨w.heap.size + 1 + 1, 0, none⟩ (.int .i64 most)).setCell ⟨w.heap.size + 1 + 1, 1, none⟩ (.slice a n cap)) from
    (((Upd.refl [w.heap.size + 1 + 1] w1).setCell _ _ (by simp)).setCell _ _ (by simp)).ext (((((Ext.refl w).alloc _).alloc _).alloc _).trans hx) (by simp; omega))
  clear h3 hb0 hb2 hx HF
  go_wp2_with fail
  exact bodyPost_ret (v := .tuple #[.agg #[.int .i64 most, .slice a n cap], .int .i64 8]) (by simp [results, Try.results19, go_sem, *]) rfl ⟨rfl, HX.out⟩
theorem RecRow.store {w : World} {base g cap : Nat} {L : List Rec} (h : RecRow w base (.slice (some ⟨g, 0, none⟩) L.length cap) L) (k : Nat) (r : Rec) :
    RecRow ((((w.setCell ⟨g, k * 4, none⟩ (.int .i64 r.ino)).setCell ⟨g, k * 4 + 1, none⟩ (.int .i64 r.gen)).setCell ⟨g, k * 4 + 2, none⟩ (.int .i64 r.n)).setCell ⟨g, k * 4 + 3, none⟩ (.bool r.is)) base (.slice (some ⟨g, 0, none⟩) L.length cap) (L.set k r) := by
  have := own_store (own_store (own_store (own_store h (k * 4) (.int .i64 r.ino)) (k * 4 + 1) (.int .i64 r.gen)) (k * 4 + 2) (.int .i64 r.n)) (k * 4 + 3) (.bool r.is)
  rw [recCells_set] at this
  unfold RecRow
  rw [List.length_set]
  exact this
theorem RecRow.put {w : World} {base g cap : Nat} {L : List Rec} {n : Nat} (h : RecRow w base (.slice (some ⟨g, 0, none⟩) n cap) L) (hn : n = L.length) (k : Nat) (hk : k < n) (r : Rec) :
    ∃ w', (Instr.storeAt 56 (.pointer (some ⟨g, k * 4, none⟩)) (.agg #[.int .i64 r.ino, .int .i64 r.gen, .int .i64 r.n, .bool r.is])).run Try.prog w = .ok () w' ∧ RecRow w' base (.slice (some ⟨g, 0, none⟩) n cap) (L.set k r) ∧ Upd [g] w w' := by
  subst hn
  refine ⟨_, own_put h k hk #[.int .i64 r.ino, .int .i64 r.gen, .int .i64 r.n, .bool r.is] rfl (by kernel_rfl) (by simp [Value.oneCell']), ?_, ?_⟩
  · exact h.store k r
  · exact ((((Upd.refl [g] w).setCell _ _ (by simp)).setCell _ _ (by simp)).setCell _ _ (by simp)).setCell _ _ (by simp)
theorem RecRow.block {w : World} {base : Nat} {v : Value} {L : List Rec} (h : RecRow w base v L) (hl : 0 < L.length) : ∃ g cap cur, v = .slice (some ⟨g, 0, none⟩) L.length cap ∧ base ≤ g ∧ w.heap[g]? = some (.cells cur 56 (0, 0)) ∧ L.length ≤ cap ∧ cap ≤ maxLen := by
  rcases h.2 with ⟨rfl, h0⟩ | ⟨g, cap, cur, hv, hb, hg, hn, hm, hs, ht⟩
  · omega
  · exact ⟨g, cap, cur, hv, hb, hg, hn, hm⟩

set_option maxRecDepth 100000 in
set_option maxHeartbeats 400000 in
theorem refSet_ok (w : World) (base : Nat) (most : Int) (v : Value) (L : List Rec) (h : RecRow w base v L) (hl : L.length ≤ 100) (ino gen x : Int) (b : Bool) (k : Nat) (hk : k < L.length) (hh : hit ino gen L[k] = true) (hb : ∀ j (hj : j < L.length), j < k → hit ino gen L[j] = false) :
    Calls Try.prog 19 #[.agg #[.int .i64 most, v], .agg #[.int .i64 ino, .int .i64 gen], .int .i64 x, .bool b] w fun r w' => ∃ v', r = .returned (.tuple #[.agg #[.int .i64 most, v'], .int .i64 0]) ∧ RecRow w' w.heap.size v' (L.set k ⟨ino, gen, x, b⟩) ∧ Ext w w' := by
  have HF := Lib.hid (fun W (hW : Ext w W) => refFind_some W base most v L (h.ext hW) hl ino gen k hk hh hb)
  have H := Lib.hid h
  obtain ⟨a, cap, rfl, -⟩ := h.form
  clear h hb hh
  obtain ⟨n, hn⟩ : ∃ n, n = L.length := ⟨_, rfl⟩
  rw [← hn] at HF H hl hk ⊢
  have HN := Lib.hid hn
  clear hn
  go_enter Try.func19, Try.ntmps19
  go_wp2_with fail
  refine (HF.out _ ((((Ext.refl w).alloc _).alloc _).alloc _)).mono ?_
  rintro r w1 ⟨rfl, hx⟩
  have h3 := alloc3' w (.cells #[.int .i64 most, .slice a n cap] 51) (.cells #[.int .i64 ino, .int .i64 gen] 29) (.cells #[.int .i64 0, .slice none 0 0] 51)
  have hX1 : Ext w w1 := ((((Ext.refl w).alloc _).alloc _).alloc _).trans hx
  obtain ⟨v', w2, p1, p2, p3⟩ := (H.out.ext hX1).copy (by rw [← HN.out]; omega) 49
  obtain ⟨g, c, cur, rfl, hg1, hg2, hc1, hc2⟩ := p2.block (by rw [← HN.out]; omega)
  have hz1 := lt_of_heap (hx.heap h3.2.2)
  have c0 := (hx.trans p3).heap h3.1
  have c1 := (hx.trans p3).heap h3.2.1
  have c2 := (hx.trans p3).heap h3.2.2
  have hzw1 := (blk2 (hx.heap h3.1)).2.1
  rw [← HN.out] at hc1 p2 p1
  obtain ⟨w3, r1, r2, r3⟩ := p2.put HN.out k hk ⟨ino, gen, x, b⟩
  have n0 : w.heap.size ≠ g := by omega
  have n1 : w.heap.size + 1 ≠ g := by omega
  have n2 : w.heap.size + 1 + 1 ≠ g := by omega
  obtain ⟨_, _, t2', _⟩ := blk2 c1
  have d0 := r3.heap c0 (by simpa using n0)
  have d2 := r3.heap c2 (by simpa using n2)
  obtain ⟨t0, t1, -, -⟩ := blk2 c1
  obtain ⟨s0, s1, s2, s3⟩ := blk2 d0
  obtain ⟨y0, y1, y2, y3⟩ := blk2 d2
  have hz2 := p3.size
  have hz3 := r3.size
  have hg3 := lt_of_heap hg2
  have hk0 : (0 : Int) ≤ (k : Int) := by omega
  have hk1 : (k : Int) < (n : Int) := by omega
  unfold maxLen at hc2
  have HU : Hid (RecRow (((w3.setCell ⟨w.heap.size, 1, none⟩ (.slice (some ⟨g, 0, none⟩) n c)).setCell ⟨w.heap.size + 1 + 1, 0, none⟩ (.int .i64 most)).setCell ⟨w.heap.size + 1 + 1, 1, none⟩ (.slice (some ⟨g, 0, none⟩) n c)) w.heap.size (.slice (some ⟨g, 0, none⟩) n c) (L.set k ⟨ino, gen, x, b⟩)) :=
    Lib.hid (ownsRow_mono (ownsRow_upd r2 ((((Upd.refl [w.heap.size, w.heap.size + 1 + 1] _).setCell _ _ (by simp)).setCell _ _ (by simp)).setCell _ _ (by simp)) (fun g0 e0 => by simp [Value.ownBlock] at e0; simp; omega)) (by omega))
  have HX : Hid (Ext w (((w3.setCell ⟨w.heap.size, 1, none⟩ (.slice (some ⟨g, 0, none⟩) n c)).setCell ⟨w.heap.size + 1 + 1, 0, none⟩ (.int .i64 most)).setCell ⟨w.heap.size + 1 + 1, 1, none⟩ (.slice (some ⟨g, 0, none⟩) n c))) :=
    Lib.hid ((((r3.mono (T := [g, w.heap.size, w.heap.size + 1 + 1]) (by simp)).setCell _ _ (by simp)).setCell _ _ (by simp)).setCell _ _ (by simp) |>.ext (hX1.trans p3) (by simp; omega))
  have P1 := Lib.hid p1
  have R1 := Lib.hid r1
  clear h3 hx hX1 p1 p2 p3 c0 c1 c2 HF H hg2 r1 r2 r3 d0 d2
  go_wp2_with (first | (at_builtin; refine wpList_append_run rfl (.tmp 18) (.tmp 20) _ rfl _ _ _ rfl rfl P1.out ?_) | (refine wpList_store_run rfl 56 (.tmp 28) (.tmp 27) rfl _ _ rfl rfl R1.out ?_))
  refine bodyPost_ret (v := .tuple #[.agg #[.int .i64 most, .slice (some ⟨g, 0, none⟩) n c], .int .i64 0]) (by simp [results, Try.results19, go_sem, *]) rfl ⟨_, rfl, ?_, ?_⟩
  · exact HU.out
  · exact HX.out

/-- The first place in which nothing is, by the records: all before are taken, it is not. -/
def FreeAt (L : List Rec) (m : Nat) : Prop := (∀ i, i < m → ∃ k, ∃ hk : k < L.length, inn ((i : Int) + 1) L[k] = true ∧ ∀ j (hj : j < L.length), j < k → inn ((i : Int) + 1) L[j] = false) ∧ ∀ j (hj : j < L.length), inn ((m : Int) + 1) L[j] = false
theorem Inv.freeAt {n : Nat} {L : List Rec} {ps : List Pl} (h : Inv n L ps) {m : Nat} (hm : m < ps.length) (hf : ps[m].is = false) (hall : ∀ j (hj : j < ps.length), j < m → ps[j].is = true) : FreeAt L m :=
  ⟨fun i hi => h.taken (by omega) (hall i (by omega) hi), h.free hm hf⟩
theorem Inv.freeOver {n : Nat} {L : List Rec} {ps : List Pl} (h : Inv n L ps) (hall : ∀ j (hj : j < ps.length), ps[j].is = true) : FreeAt L n :=
  ⟨fun i hi => h.taken (by have := h.len; omega) (hall i (by have := h.len; omega)), h.over⟩
theorem filter_take {α : Type} (p : α → Bool) (L : List α) (j : Nat) (h : j < L.length) : (L.take (j + 1)).filter p = (L.take j).filter p ++ (if p L[j] then [L[j]] else []) := by
  rw [List.take_succ_eq_append_getElem h, List.filter_append]
  congr 1
  cases hp : p L[j] <;> simp [hp]
theorem alloc3b (w : World) (A B C : Obj) {w1 : World} (hx : Ext (((w.alloc A).alloc B).alloc C) w1) : w1.heap[w.heap.size]? = some A ∧ w1.heap[w.heap.size + 1]? = some B ∧ w1.heap[w.heap.size + 1 + 1]? = some C := by
  have h3 := alloc3' w A B C
  exact ⟨hx.heap h3.1, hx.heap h3.2.1, hx.heap h3.2.2⟩

set_option maxRecDepth 100000 in
set_option maxHeartbeats 2000000 in
theorem refAdd_full (w : World) (base : Nat) (n : Nat) (hn : n ≤ 100) (v : Value) (L : List Rec) (h : RecRow w base v L) (hl : L.length ≤ 100) (x : Int) (m : Nat) (hm : n ≤ m) (hmm : m ≤ 100) (hf : FreeAt L m) :
    Calls Try.prog 20 #[.agg #[.int .i64 n, v], .int .i64 x] w fun r w' => r = .returned (.tuple #[.agg #[.int .i64 n, v], .agg #[.int .i64 0, .int .i64 0], .int .i64 14]) ∧ Ext w w' := by
  have HT := Lib.hid (fun W (hW : Ext w W) i (hi : i < m) => have ⟨k, hk, h1, h2⟩ := hf.1 i hi; taken_yes W base n v L (h.ext hW) hl ((i : Int) + 1) k hk h1 h2)
  have HN := Lib.hid (fun W (hW : Ext w W) => taken_no W base n v L (h.ext hW) hl ((m : Int) + 1) hf.2)
  obtain ⟨a, cap, rfl, -⟩ := h.form
  clear h hf
  generalize L.length = l at *
  go_enter Try.func20, Try.ntmps20
  go_wp2_with fail
  go_loopw [7] (fun v7 wr => ∃ i : Nat, i ≤ m ∧ v7 = .int .i64 ((i : Int) + 1) ∧ Ext (((w.alloc (.cells #[.int .i64 n, .slice a l cap] 51)).alloc (.cells #[.int .i64 0, .slice none 0 0] 51)).alloc (.cells #[.int .i64 0, .int .i64 0] 29)) wr) (fun v7 _ => m + 1 - (intOf v7).toNat)
  case atStart => exact ⟨0, by omega, rfl, Ext.refl _⟩
  case round =>
    obtain ⟨i, hi, rfl, hx⟩ := hrel
    obtain ⟨b0, b1, b2⟩ := alloc3b w _ _ _ hx
    obtain ⟨s0, s1, -, -⟩ := blk2 b0
    have hz := lt_of_heap b2
    have hX : Ext w wr := ((((Ext.refl w).alloc _).alloc _).alloc _).trans hx
    have HX := Lib.hid hX
    have HXX := Lib.hid hx
    clear hx hX
    by_cases him : i < m
    · clear b0 b1 b2
      go_wp2_with fail
      refine (HT.out _ HX.out i him).mono ?_
      rintro r w1 ⟨rfl, hx1⟩
      go_wp2_with fail
      go_roundw
      case rel => exact ⟨i + 1, by omega, by go_num, HXX.out.trans hx1⟩
      case measure => simp [intOf]; omega
    · obtain rfl : i = m := by omega
      go_wp2_with fail
      refine (HN.out _ HX.out).mono ?_
      rintro r w1 ⟨rfl, hx1⟩
      have hd : decide ((n : Int) < (i : Int) + 1) = true := by simp; omega
      obtain ⟨s0, s1, -, -⟩ := blk2 (hx1.heap b0)
      obtain ⟨t0, t1, t2, t3⟩ := blk2 (hx1.heap b1)
      obtain ⟨y0, y1, y2, y3⟩ := blk2 (hx1.heap b2)
      have hz1 := lt_of_heap (hx1.heap b2)
      have HF := Lib.hid (HX.out.trans hx1)
      clear b0 b1 b2 hx1
      go_wp2_with fail
      refine bodyPost_ret (v := .tuple #[.agg #[.int .i64 n, .slice a l cap], .agg #[.int .i64 0, .int .i64 0], .int .i64 14]) (by simp [results, Try.results20, go_sem, *]) rfl ⟨rfl, ?_⟩
      exact ((((Upd.refl [w.heap.size + 1, w.heap.size + 1 + 1] w1).setCell _ _ (by simp)).setCell _ _ (by simp)).setCell _ _ (by simp)).setCell _ _ (by simp) |>.ext HF.out (by simp; omega)

set_option maxRecDepth 100000 in
set_option maxHeartbeats 4000000 in
theorem refAdd_ok (w : World) (base : Nat) (n : Nat) (hn : n ≤ 100) (v : Value) (L : List Rec) (h : RecRow w base v L) (hl : L.length ≤ 99) (x : Int) (m : Nat) (hm : m < n) (hf : FreeAt L m) (G : Int) (hG : ((L.filter (ofIno ((m : Int) + 1))).length : Int) = G) :
    Calls Try.prog 20 #[.agg #[.int .i64 n, v], .int .i64 x] w fun r w' => ∃ v', r = .returned (.tuple #[.agg #[.int .i64 n, v'], .agg #[.int .i64 (m + 1), .int .i64 (G + 1)], .int .i64 0]) ∧ RecRow w' w.heap.size v' (L ++ [⟨m + 1, G + 1, x, true⟩]) ∧ Ext w w' := by
  have HT := Lib.hid (fun W (hW : Ext w W) i (hi : i < m) => have ⟨k, hk, h1, h2⟩ := hf.1 i hi; taken_yes W base n v L (h.ext hW) (by omega) ((i : Int) + 1) k hk h1 h2)
  have HN := Lib.hid (fun W (hW : Ext w W) => taken_no W base n v L (h.ext hW) (by omega) ((m : Int) + 1) hf.2)
  have H := Lib.hid h
  have HG := Lib.hid hG
  obtain ⟨a, cap, rfl, -⟩ := h.form
  clear h hf hG
  obtain ⟨l, hl'⟩ : ∃ l, l = L.length := ⟨_, rfl⟩
  rw [← hl'] at HT HN H hl ⊢
  have HLl := Lib.hid hl'
  clear hl'
  go_enter Try.func20, Try.ntmps20
  go_wp2_with fail
  go_loopw [7] (fun v7 wr => ∃ i : Nat, i ≤ m ∧ v7 = .int .i64 ((i : Int) + 1) ∧ Ext (((w.alloc (.cells #[.int .i64 n, .slice a l cap] 51)).alloc (.cells #[.int .i64 0, .slice none 0 0] 51)).alloc (.cells #[.int .i64 0, .int .i64 0] 29)) wr) (fun v7 _ => m + 1 - (intOf v7).toNat)
  case atStart => exact ⟨0, by omega, rfl, Ext.refl _⟩
  case round =>
    obtain ⟨i, hi, rfl, hx⟩ := hrel
    obtain ⟨b0, b1, b2⟩ := alloc3b w _ _ _ hx
    obtain ⟨s0, s1, -, -⟩ := blk2 b0
    have hz := lt_of_heap b2
    have hX : Ext w wr := ((((Ext.refl w).alloc _).alloc _).alloc _).trans hx
    have HX := Lib.hid hX
    have HXX := Lib.hid hx
    clear hx hX
    by_cases him : i < m
    · clear b0 b1 b2
      go_wp2_with fail
      refine (HT.out _ HX.out i him).mono ?_
      rintro r w1 ⟨rfl, hx1⟩
      go_wp2_with fail
      go_roundw
      case rel => exact ⟨i + 1, by omega, by go_num, HXX.out.trans hx1⟩
      case measure => simp [intOf]; omega
    · obtain rfl : i = m := by omega
      go_wp2_with fail
      refine (HN.out _ HX.out).mono ?_
      rintro r w1 ⟨rfl, hx1⟩
      have hd : decide ((n : Int) < (i : Int) + 1) = false := by simp; omega
      have B0 := Lib.hid (hx1.heap b0)
      have B1 := Lib.hid (hx1.heap b1)
      have B2 := Lib.hid (hx1.heap b2)
      obtain ⟨s0, s1, -, -⟩ := blk2 B0.out
      have hz1 := lt_of_heap B2.out
      have HF := Lib.hid (HX.out.trans hx1)
      clear b0 b1 b2 hx1 HX HXX HT HN hz
      go_wp2_with fail
      go_loop [8, 9] (fun v8 v9 => ∃ j : Nat, j ≤ l ∧ v9 = .int .i64 j ∧ v8 = .int .i64 (1 + (((L.take j).filter (ofIno ((i : Int) + 1))).length : Nat))) (fun _ v9 => l - (intOf v9).toNat)
      case atStart => exact ⟨0, by omega, rfl, by simp⟩
      case round =>
        obtain ⟨j, hj, rfl, rfl⟩ := hrel
        have hfl : ((L.take j).filter (ofIno ((i : Int) + 1))).length ≤ 100 := by
          have h1 := List.length_filter_le (ofIno ((i : Int) + 1)) (L.take j)
          have h2 := List.length_take_le j L
          omega
        by_cases hjl : j < l
        · have hjL : j < L.length := by rw [← HLl.out]; exact hjl
          obtain ⟨a', cap', hv', hcl, hcm, hcell⟩ := (H.out.ext HF.out).form
          injection hv' with e1 _ e2
          subst e1 e2
          obtain ⟨g, rfl, hg, q0, -, -, -⟩ := hcell j hjL
          have hd1 : decide ((j : Int) < (l : Int)) = true := by simp; omega
          have hj0 : (0 : Int) ≤ (j : Int) := by omega
          have hj1 : (j : Int) < (l : Int) := by omega
          unfold maxLen at hcm
          have HTk := Lib.hid (filter_take (ofIno ((i : Int) + 1)) L j hjL)
          clear hcell
          cases hp : ofIno ((i : Int) + 1) L[j]
          · rw [hp] at HTk
            have hq : (L[j].ino == (i : Int) + 1) = false := hp
            have HQ : Hid (((L.take (j + 1)).filter (ofIno ((i : Int) + 1))).length = ((L.take j).filter (ofIno ((i : Int) + 1))).length) := Lib.hid (by rw [HTk.out]; simp)
            clear hp HTk
            generalize L[j].ino = ri at *
            generalize ((L.take j).filter (ofIno ((i : Int) + 1))).length = fl at *
            go_wp2_with fail
            go_round
            case rel => exact ⟨j + 1, by omega, by go_num, by rw [HQ.out]⟩
            case measure => simp [intOf]; omega
          · rw [hp] at HTk
            have hq : (L[j].ino == (i : Int) + 1) = true := hp
            have hq' := eq_of_beq hq
            rw [hq'] at q0
            have HQ : Hid (((L.take (j + 1)).filter (ofIno ((i : Int) + 1))).length = ((L.take j).filter (ofIno ((i : Int) + 1))).length + 1) := Lib.hid (by rw [HTk.out]; simp)
            clear hq hq' hp HTk
            generalize ((L.take j).filter (ofIno ((i : Int) + 1))).length = fl at *
            go_wp2_with fail
            go_round
            case rel => exact ⟨j + 1, by omega, by go_num, by rw [HQ.out]; go_num⟩
            case measure => simp [intOf]; omega
        · obtain rfl : j = l := by omega
          have hd1 : decide ((j : Int) < (j : Int)) = false := by simp
          have HGe : Hid (1 + (((L.take j).filter (ofIno ((i : Int) + 1))).length : Int) = G + 1) := Lib.hid (by rw [List.take_of_length_le (by rw [← HLl.out]; omega), HG.out]; omega)
          have hGb : 0 ≤ G ∧ G ≤ 100 := by have := HGe.out; omega
          rw [HGe.out]
          clear HGe hfl
          obtain ⟨hG0, hG1⟩ := hGb
          have hxH := (Ext.refl w1).alloc (.cells #[.int .i64 ((i : Int) + 1), .int .i64 (G + 1)] 29)
          obtain ⟨v1, w3, p1, p2, p3⟩ := (H.out.ext (HF.out.trans hxH)).copy (by rw [← HLl.out]; omega) 49
          obtain ⟨v2, w4, r1, r2, r3⟩ := p2.push (by rw [← HLl.out]; omega) p3.size ⟨(i : Int) + 1, G + 1, x, true⟩ 49
          have hfar : ∀ k ∈ v1.ownBlock.toList, w1.heap.size + 1 ≤ k := fun k hk => by
            have := (World.ownsRow.lt p2 k (by simpa using hk)).1
            simpa using this
          have hs1 : (w1.alloc (.cells #[.int .i64 ((i : Int) + 1), .int .i64 (G + 1)] 29)).heap.size = w1.heap.size + 1 := by simp
          have B3 := Lib.hid (r3.heap (p3.heap (heap_alloc_new w1 (.cells #[.int .i64 ((i : Int) + 1), .int .i64 (G + 1)] 29))) (fun hm => by have := hfar _ hm; omega))
          have C0 := Lib.hid (r3.heap ((hxH.trans p3).heap B0.out) (fun hm => by have := hfar _ hm; omega))
          have C1 := Lib.hid (r3.heap ((hxH.trans p3).heap B1.out) (fun hm => by have := hfar _ hm; omega))
          have C2 := Lib.hid (r3.heap ((hxH.trans p3).heap B2.out) (fun hm => by have := hfar _ hm; omega))
          have hz0 : w.heap.size < w1.heap.size := by omega
          have hz3 := lt_of_heap (p3.heap (heap_alloc_new w1 (.cells #[.int .i64 ((i : Int) + 1), .int .i64 (G + 1)] 29)))
          obtain ⟨u0, u1, -, -⟩ := blk2 (p3.heap (heap_alloc_new w1 (.cells #[.int .i64 ((i : Int) + 1), .int .i64 (G + 1)] 29)))
          obtain ⟨k0, k1, k2, k3⟩ := blk2 C0.out
          have hz4 := lt_of_heap C0.out
          obtain ⟨a1, c1, rfl, -⟩ := p2.form
          have HE4 := Lib.hid (r3.ext (HF.out.trans (hxH.trans p3)) (fun k hk => by have := hfar k hk; have := HF.out.size; omega))
          have HR2 := Lib.hid r2
          obtain ⟨a2, c2, rfl, -⟩ := r2.form
          rw [← HLl.out] at p1 r1
          generalize hn2 : (L ++ [(⟨(i : Int) + 1, G + 1, x, true⟩ : Rec)]).length = n2 at *
          have P1 := Lib.hid p1
          have R1 := Lib.hid r1
          have h31 := p3.size
          rw [hs1] at h31
          have hw4 := r3.size
          clear hxH p1 p2 p3 r1 r2 r3 hfar hn2
          go_upto_region 16 with (first | (at_builtin; refine wpList_append_run rfl (.tmp 44) (.tmp 46) _ rfl _ _ _ rfl rfl P1.out ?_) | (at_builtin; refine wpList_append_run rfl (.tmp 48) (.tmp 52) _ rfl _ _ _ rfl rfl R1.out ?_))
          obtain ⟨w5, hw5⟩ : ∃ w5, w5 = w4.setCell ⟨w.heap.size, 1, none⟩ (.slice a2 n2 c2) := ⟨_, rfl⟩
          rw [← hw5]
          have hu5 : Upd [w.heap.size] w4 w5 := by rw [hw5]; exact (Upd.refl _ w4).setCell _ _ (by simp)
          have D0 : w5.heap[w.heap.size]? = some (.cells #[.int .i64 n, .slice a2 n2 c2] 51 (0, 0)) := by
            rw [hw5, heap_setCell_same _ _ _ _ _ _ C0.out]; rfl
          have D1 := hu5.heap C1.out (by simp)
          have D2 := hu5.heap C2.out (by simp; omega)
          have D3 := hu5.heap B3.out (by simp; omega)
          have HR5 := Lib.hid (ownsRow_upd HR2.out hu5 (fun g hg => by have := (World.ownsRow.lt HR2.out g hg).1; simp at this; simp; omega))
          have HE5 := Lib.hid (hu5.ext HE4.out (by simp))
          clear k0 k1 k2 k3 hw5 hu5 u0 u1 P1 R1
          obtain ⟨k0, k1, -, -⟩ := blk2 D0
          obtain ⟨t0, t1, t2, t3⟩ := blk2 D1
          obtain ⟨y0, y1, y2, y3⟩ := blk2 D2
          obtain ⟨u0, u1, -, -⟩ := blk2 D3
          have l0 := lt_of_heap D2
          have l1 := lt_of_heap D3
          have m1 : w1.heap.size ≠ w.heap.size + 1 := by omega
          have m2 : w1.heap.size ≠ w.heap.size + 1 + 1 := by omega
          clear D0 D1 D2 D3 s0 s1
          go_region
          go_wp2_with fail
          refine bodyPost_ret (v := .tuple #[.agg #[.int .i64 n, .slice a2 n2 c2], .agg #[.int .i64 ((i : Int) + 1), .int .i64 (G + 1)], .int .i64 0]) (by simp [results, Try.results20, go_sem, *]) rfl ⟨_, rfl, ?_, ?_⟩
          · refine ownsRow_ext (ownsRow_mono (ownsRow_upd HR5.out (((((Upd.refl [w.heap.size + 1, w.heap.size + 1 + 1] w5).setCell _ _ (by simp)).setCell _ _ (by simp)).setCell _ _ (by simp)).setCell _ _ (by simp)) (fun g hg => ?_)) ?_) ((Ext.refl _).drew)
            · have := (World.ownsRow.lt HR2.out g hg).1
              simp at this
              simp
              omega
            · simp
              omega
          · exact ((((((Upd.refl [w.heap.size + 1, w.heap.size + 1 + 1] w5).setCell _ _ (by simp)).setCell _ _ (by simp)).setCell _ _ (by simp)).setCell _ _ (by simp)).ext HE5.out (by simp; omega)).drew
end Go.Proofs.Ytmdacpkkglhefaa.inoI
