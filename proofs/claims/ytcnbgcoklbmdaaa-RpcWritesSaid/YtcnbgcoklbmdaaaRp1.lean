/- Messages: as the document, and as the program, has them; Short, of, bytes.Equal, Same. -/
import Derived.Test.YtcnbgcoklbmdaaaBy
import Derived.Test.YtcnbgcoklbmdaaaByU
import Derived.Lib.ConvBytes
import Derived.Shelf.Bytes.SlSmallAll
namespace Go.Proofs.Ytcnbgcoklbmdaaa
open Go.ChangeShapes Go.WideShapes Go.ChangeAt Go.RowKit

/-- A message. -/
structure MV where
  reply : Bool
  xid : Int
  proc : Int
  body : ByteArray
def MV.cells (m : MV) : Array Value := #[.bool m.reply, .int .u32 m.xid, .int .u32 m.proc, .string m.body]
def MV.val (m : MV) : Value := .agg m.cells
structure MV.Ok (m : MV) : Prop where
  x0 : 0 ≤ m.xid
  x1 : m.xid < 4294967296
  p0 : 0 ≤ m.proc
  p1 : m.proc < 4294967296
  b : m.body.size ≤ maxLen
/-- A string's bytes. -/
def bl (s : ByteArray) : List Int := s.data.toList.map fun b => (b.toNat : Int)
theorem bl_len (s : ByteArray) : (bl s).length = s.size := by rw [bl, List.length_map, Array.length_toList]; rfl
theorem bl_wf (s : ByteArray) : ∀ z ∈ bl s, (Lit.int .u8 z).wf = true := by
  intro z hz
  simp only [bl, List.mem_map] at hz
  obtain ⟨b, _, rfl⟩ := hz
  have := b.toNat_lt
  simp [Lit.wf, IntKind.min, IntKind.max, IntKind.signed, IntKind.bits]
  omega
theorem str_bl (s : ByteArray) : strOfNums (bl s) = s := by
  apply ByteArray.ext
  apply Array.ext'
  simp only [strOfNums, bl, List.map_map]
  conv => rhs; rw [← List.map_id s.data.toList]
  apply List.map_congr_left
  intro b _
  simp
theorem str_inj {a b : List Int} (ha : ∀ z ∈ a, (Lit.int .u8 z).wf = true) (hb : ∀ z ∈ b, (Lit.int .u8 z).wf = true) (h : strOfNums a = strOfNums b) : a = b := by
  have h1 : a.map (fun n => UInt8.ofNat n.toNat) = b.map (fun n => UInt8.ofNat n.toNat) := by
    have := congrArg (fun s : ByteArray => s.data.toList) h
    simpa [strOfNums] using this
  have e : ∀ l : List Int, (∀ z ∈ l, (Lit.int .u8 z).wf = true) → (l.map (fun n => UInt8.ofNat n.toNat)).map (fun b => (b.toNat : Int)) = l := fun l hl => by
    rw [List.map_map]
    conv => rhs; rw [← List.map_id l]
    apply List.map_congr_left
    intro z hz
    have := wf_u8 (hl z hz)
    simp
    omega
  rw [← e a ha, ← e b hb, h1]
/-- Bytes of a string, in a new block. -/
theorem run_strBytes (w : World) (s : ByteArray) (hs : s.size ≤ 100000) : ∃ c W, (convert 9 28 (.string s)).run Try.prog w = .ok (.slice (some ⟨w.heap.size, 0, none⟩) s.size c) W ∧ IsRow .u8 W (some ⟨w.heap.size, 0, none⟩) s.size c (bl s) ∧ Ext w W ∧ W.heap.size = w.heap.size + 1 := by
  refine ⟨_, _, Go.Lib.run_convert_string_bytes w 9 28 5 s Try.underlying9 Try.underlying28 Try.underlying5, ?_, ?_, Go.Lib.bytesWorld_size w _ s⟩
  · refine ⟨bl_len s, grownCap_ge w s.size 0 5, grownCap_le_maxLen w s.size 0 5 (by unfold maxLen; omega), bl_wf s, .inr ⟨w.heap.size, 0, rfl, fun i hi => ?_⟩⟩
    rw [Nat.zero_add, Go.Lib.bytesWorld_cell w _ s i hi]
    have : i < s.data.toList.length := by rw [Array.length_toList]; exact hi
    simp [bl, List.getD, List.getElem?_eq_getElem this]
  · refine ⟨?_, ?_, ?_, by rw [Go.Lib.bytesWorld_size]; omega, fun k hk => Go.Lib.bytesWorld_at_old w _ s k hk⟩ <;> rfl
/-- A row as a string. -/
theorem IsRow.str {w : World} {a : Option Addr} {n c : Nat} {zs : List Int} (h : IsRow .u8 w a n c zs) : (convert 28 9 (.slice a n c)).run Try.prog w = .ok (.string (strOfNums zs)) w := by
  have hl := h.1
  rcases h.2.2.2.2 with h0 | ⟨g, o, rfl, hc⟩
  · have hz : zs = [] := List.eq_nil_of_length_eq_zero (by omega)
    subst hz h0
    exact run_convert_bytes_zero w 28 5 Try.underlying28 Try.underlying5 a c 9 Try.underlying9
  · exact run_convert_bytes_arg w 28 5 Try.underlying28 Try.underlying5 g o n c zs hl hc 9 Try.underlying9

theorem short_any (s : ByteArray) (hs : s.size ≤ maxLen) (k : Nat) (hk : k ≤ 100000) (w : World) :
    Calls Try.prog 5 #[.string s, .int .i64 k] w fun r w' => r = .returned (.string (s.extract 0 (min s.size k))) ∧ w = w' := by
  unfold maxLen at hs
  by_cases h : k < s.size
  · have HE := Lib.hid (show min s.size k = k by omega)
    go_enter Try.func5, Try.ntmps5
    go_wp2
    go_ret
    exact ⟨by rw [HE.out]; rfl, rfl⟩
  · have HE := Lib.hid (show s.extract 0 (min s.size k) = s by rw [show min s.size k = s.size by omega]; exact ByteArray.extract_zero_size)
    go_enter Try.func5, Try.ntmps5
    go_wp2
    go_ret
    exact ⟨by rw [HE.out]; rfl, rfl⟩
theorem IsRow.updB {S : List Nat} {k : IntKind} {w w' : World} {a : Option Addr} {len cap : Nat} {zs : List Int} (h : IsRow k w a len cap zs) (hx : Upd S w w') (hs : ∀ g o, a = some ⟨g, o, none⟩ → g ∉ S) : IsRow k w' a len cap zs := by
  obtain ⟨h1, h2, h3, h4, h5⟩ := h
  refine ⟨h1, h2, h3, h4, ?_⟩
  rcases h5 with h5 | ⟨g, o, h6, h7⟩
  · exact .inl h5
  · exact .inr ⟨g, o, h6, fun i hi => hx.cell (h7 i hi) (hs g o h6)⟩
theorem blk4 {w : World} {g : Nat} {a b c d : Value} {t : TypeId} (h : w.heap[g]? = some (.cells #[a, b, c, d] t (0, 0))) :
    w.cell? ⟨g, 0, none⟩ = some a ∧ w.cell? ⟨g, 1, none⟩ = some b ∧ w.cell? ⟨g, 2, none⟩ = some c ∧ w.cell? ⟨g, 3, none⟩ = some d ∧ w.frozen? ⟨g, 0, none⟩ = false ∧ w.frozen? ⟨g, 1, none⟩ = false ∧ w.frozen? ⟨g, 2, none⟩ = false ∧ w.frozen? ⟨g, 3, none⟩ = false :=
  ⟨cell_of h 0, cell_of h 1, cell_of h 2, cell_of h 3, free_of h 0, free_of h 1, free_of h 2, free_of h 3⟩
set_option maxHeartbeats 1000000 in
theorem of_any (m : MV) (hb : m.body.size ≤ 100000) (w : World) :
    Calls Try.prog 7 #[m.val] w fun r w' => ∃ a c, r = .returned (.agg #[.bool m.reply, .int .u32 m.xid, .int .u32 m.proc, .slice a m.body.size c]) ∧ IsRow .u8 w' a m.body.size c (bl m.body) ∧ Plain a c ∧ Ext w w' := by
  obtain ⟨r, x, p, s⟩ := m
  simp only [MV.val, MV.cells] at *
  obtain ⟨c, W, h1, h2, h3, h4⟩ := run_strBytes ((w.alloc (.cells #[.bool r, .int .u32 x, .int .u32 p, .string s] 24)).alloc (.cells #[.bool false, .int .u32 0, .int .u32 0, .slice none 0 0] 30)) s hb
  have hb2 := h3.heap (heap_alloc2_new w _ _)
  have hg := lt_of_heap hb2
  obtain ⟨c0, c1, c2, c3, f0, f1, f2, f3⟩ := blk4 hb2
  simp only [World.size_alloc] at h1 h2
  have H2 := Lib.hid h2
  have H3 := Lib.hid h3
  have HB := Lib.hid hb2
  clear h2 h3 h4 hb2
  go_enter Try.func7, Try.ntmps7
  go_wp2_with fail
  obtain ⟨W', hW'⟩ : ∃ W', W' = (((W.setCell ⟨w.heap.size + 1, 0, none⟩ (.bool r)).setCell ⟨w.heap.size + 1, 1, none⟩ (.int .u32 x)).setCell ⟨w.heap.size + 1, 2, none⟩ (.int .u32 p)).setCell ⟨w.heap.size + 1, 3, none⟩ (.slice (some ⟨w.heap.size + 1 + 1, 0, none⟩) s.size c) := ⟨_, rfl⟩
  have u : Upd [w.heap.size + 1] W W' := by rw [hW']; exact ((((Upd.refl _ W).setCell _ _ (by simp)).setCell _ _ (by simp)).setCell _ _ (by simp)).setCell _ _ (by simp)
  have b4 : W'.heap[w.heap.size + 1]? = some (.cells #[.bool r, .int .u32 x, .int .u32 p, .slice (some ⟨w.heap.size + 1 + 1, 0, none⟩) s.size c] 30 (0, 0)) := by
    have b0 := heap_setCell_same W (w.heap.size + 1) 0 _ _ (.bool r) HB.out
    have b1 := heap_setCell_same _ (w.heap.size + 1) 1 _ _ (.int .u32 x) b0
    have b2 := heap_setCell_same _ (w.heap.size + 1) 2 _ _ (.int .u32 p) b1
    have b3 := heap_setCell_same _ (w.heap.size + 1) 3 _ _ (.slice (some ⟨w.heap.size + 1 + 1, 0, none⟩) s.size c) b2
    rw [hW', b3]
    rfl
  rw [← hW']
  clear hW'
  obtain ⟨d0, d1, d2, d3, _, _, _, _⟩ := blk4 b4
  refine bodyPost_ret (v := .agg #[.bool r, .int .u32 x, .int .u32 p, .slice (some ⟨w.heap.size + 1 + 1, 0, none⟩) s.size c]) (by simp [results, Try.results7, go_sem, d0, d1, d2, d3]) rfl ⟨_, _, rfl, H2.out.updB u (fun g o e => by simp at e; simp; omega), .inr ⟨_, _, rfl⟩, u.ext ((((Ext.refl w).alloc _).alloc _).trans H3.out) (by simp)⟩

theorem equal_any (a b : Option Addr) (n m c d : Nat) (zs ys : List Int) (w : World) (h1 : IsRow .u8 w a n c zs) (h2 : IsRow .u8 w b m d ys) :
    Calls Try.prog 13 #[.slice a n c, .slice b m d] w fun r w' => r = .returned (.bool ((strOfNums zs).toList == (strOfNums ys).toList)) ∧ w = w' := by
  have s1 := h1.str
  have s2 := h2.str
  clear h1 h2
  go_enter Try.func13, Try.ntmps13
  go_wp2_with fail
  go_ret
  exact ⟨rfl, rfl⟩

/-- Are two messages the same? -/
def eqM (m k : MV) : Bool := decide (m.reply = k.reply) && (decide (m.xid = k.xid) && (decide (m.proc = k.proc) && (m.body.toList == k.body.toList)))
set_option maxHeartbeats 1000000 in
theorem same_any (m k : MV) (a b : Option Addr) (c d : Nat) (w : World) (h1 : IsRow .u8 w a m.body.size c (bl m.body)) (h2 : IsRow .u8 w b k.body.size d (bl k.body)) :
    Calls Try.prog 6 #[.agg #[.bool m.reply, .int .u32 m.xid, .int .u32 m.proc, .slice a m.body.size c], .agg #[.bool k.reply, .int .u32 k.xid, .int .u32 k.proc, .slice b k.body.size d]] w fun r w' => r = .returned (.bool (eqM m k)) ∧ Ext w w' := by
  have hx : Ext w ((w.alloc (.cells #[.bool m.reply, .int .u32 m.xid, .int .u32 m.proc, .slice a m.body.size c] 30)).alloc (.cells #[.bool k.reply, .int .u32 k.xid, .int .u32 k.proc, .slice b k.body.size d] 30)) := ((Ext.refl w).alloc _).alloc _
  have HE := Lib.hid (equal_any a b _ _ c d _ _ _ (h1.ext hx) (h2.ext hx))
  have HX := Lib.hid hx
  rw [str_bl, str_bl] at HE
  clear h1 h2 hx
  obtain ⟨r1, x1, p1, s1⟩ := m
  obtain ⟨r2, x2, p2, s2⟩ := k
  simp only [eqM] at *
  by_cases hr : r1 = r2
  · by_cases hxx : x1 = x2
    · by_cases hp : p1 = p2
      · subst hr hxx hp
        simp only [decide_true, Bool.true_and]
        go_enter Try.func6, Try.ntmps6
        go_wp2_with fail
        refine HE.out.mono ?_
        rintro r w' ⟨rfl, rfl⟩
        go_wp2_with fail
        go_ret
        exact ⟨rfl, HX.out⟩
      · have hd : (p1 == p2) = false := by simpa using hp
        have hp' : decide (p1 = p2) = false := by simpa using hp
        subst hr hxx
        simp only [hp', decide_true, Bool.true_and, Bool.false_and]
        go_enter Try.func6, Try.ntmps6
        go_wp2_with fail
        go_ret
        exact ⟨rfl, HX.out⟩
    · have hd : (x1 == x2) = false := by simpa using hxx
      have hp' : decide (x1 = x2) = false := by simpa using hxx
      subst hr
      simp only [hp', decide_true, Bool.true_and, Bool.false_and]
      go_enter Try.func6, Try.ntmps6
      go_wp2_with fail
      go_ret
      exact ⟨rfl, HX.out⟩
  · have hd : (r1 == r2) = false := by simpa using hr
    have hp' : decide (r1 = r2) = false := by simpa using hr
    simp only [hp', Bool.false_and]
    go_enter Try.func6, Try.ntmps6
    go_wp2_with fail
    go_ret
    exact ⟨rfl, HX.out⟩
end Go.Proofs.Ytcnbgcoklbmdaaa
