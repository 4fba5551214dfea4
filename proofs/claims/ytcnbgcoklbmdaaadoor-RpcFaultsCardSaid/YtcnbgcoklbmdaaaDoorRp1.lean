/- Messages as the document has them; Short. -/
import Derived.Test.YtcnbgcoklbmdaaaDoorBy
import Derived.Test.YtcnbgcoklbmdaaaDoorByU
import Derived.Lib.ConvBytes
import Derived.Shelf.Bytes.SlSmallAll
namespace Go.Proofs.YtcnbgcoklbmdaaaDoor
open Go.ChangeShapes Go.WideShapes Go.ChangeAt Go.RowKit

/-- A message. -/
structure MV where
  reply : Bool
  xid : Int
  proc : Int
  body : ByteArray
def MV.cells (m : MV) : Array Value := #[.bool m.reply, .int .u32 m.xid, .int .u32 m.proc, .string m.body]
def MV.val (m : MV) : Value := .agg m.cells
structure MV.Ok (m : MV) : Prop where
  x0 : 0 ≤ m.xid
  x1 : m.xid < 4294967296
  p0 : 0 ≤ m.proc
  p1 : m.proc < 4294967296
  b : m.body.size ≤ maxLen
/-- A string's bytes. -/
def bl (s : ByteArray) : List Int := s.data.toList.map fun b => (b.toNat : Int)
theorem bl_len (s : ByteArray) : (bl s).length = s.size := by rw [bl, List.length_map, Array.length_toList]; rfl
theorem bl_wf (s : ByteArray) : ∀ z ∈ bl s, (Lit.int .u8 z).wf = true := by
  intro z hz
  simp only [bl, List.mem_map] at hz
  obtain ⟨b, _, rfl⟩ := hz
  have := b.toNat_lt
  simp [Lit.wf, IntKind.min, IntKind.max, IntKind.signed, IntKind.bits]
  omega
theorem str_bl (s : ByteArray) : strOfNums (bl s) = s := by
  apply ByteArray.ext
  apply Array.ext'
  simp only [strOfNums, bl, List.map_map]
  conv => rhs; rw [← List.map_id s.data.toList]
  apply List.map_congr_left
  intro b _
  simp
theorem str_inj {a b : List Int} (ha : ∀ z ∈ a, (Lit.int .u8 z).wf = true) (hb : ∀ z ∈ b, (Lit.int .u8 z).wf = true) (h : strOfNums a = strOfNums b) : a = b := by
  have h1 : a.map (fun n => UInt8.ofNat n.toNat) = b.map (fun n => UInt8.ofNat n.toNat) := by
    have := congrArg (fun s : ByteArray => s.data.toList) h
    simpa [strOfNums] using this
  have e : ∀ l : List Int, (∀ z ∈ l, (Lit.int .u8 z).wf = true) → (l.map (fun n => UInt8.ofNat n.toNat)).map (fun b => (b.toNat : Int)) = l := fun l hl => by
    rw [List.map_map]
    conv => rhs; rw [← List.map_id l]
    apply List.map_congr_left
    intro z hz
    have := wf_u8 (hl z hz)
    simp
    omega
  rw [← e a ha, ← e b hb, h1]
/-- Bytes of a string, in a new block. -/
theorem run_strBytes (w : World) (s : ByteArray) (hs : s.size ≤ 100000) : ∃ c W, (convert 9 22 (.string s)).run Tryd.prog w = .ok (.slice (some ⟨w.heap.size, 0, none⟩) s.size c) W ∧ IsRow .u8 W (some ⟨w.heap.size, 0, none⟩) s.size c (bl s) ∧ Ext w W ∧ W.heap.size = w.heap.size + 1 := by
  refine ⟨_, _, Go.Lib.run_convert_string_bytes w 9 22 5 s Tryd.underlying9 Tryd.underlying22 Tryd.underlying5, ?_, ?_, Go.Lib.bytesWorld_size w _ s⟩
  · refine ⟨bl_len s, grownCap_ge w s.size 0 5, grownCap_le_maxLen w s.size 0 5 (by unfold maxLen; omega), bl_wf s, .inr ⟨w.heap.size, 0, rfl, fun i hi => ?_⟩⟩
    rw [Nat.zero_add, Go.Lib.bytesWorld_cell w _ s i hi]
    have : i < s.data.toList.length := by rw [Array.length_toList]; exact hi
    simp [bl, List.getD, List.getElem?_eq_getElem this]
  · refine ⟨?_, ?_, ?_, by rw [Go.Lib.bytesWorld_size]; omega, fun k hk => Go.Lib.bytesWorld_at_old w _ s k hk⟩ <;> rfl
/-- A row as a string. -/
theorem IsRow.str {w : World} {a : Option Addr} {n c : Nat} {zs : List Int} (h : IsRow .u8 w a n c zs) : (convert 22 9 (.slice a n c)).run Tryd.prog w = .ok (.string (strOfNums zs)) w := by
  have hl := h.1
  rcases h.2.2.2.2 with h0 | ⟨g, o, rfl, hc⟩
  · have hz : zs = [] := List.eq_nil_of_length_eq_zero (by omega)
    subst hz h0
    exact run_convert_bytes_zero w 22 5 Tryd.underlying22 Tryd.underlying5 a c 9 Tryd.underlying9
  · exact run_convert_bytes_arg w 22 5 Tryd.underlying22 Tryd.underlying5 g o n c zs hl hc 9 Tryd.underlying9

theorem short_any (s : ByteArray) (_hs : s.size ≤ maxLen) (k : Nat) (hk : k ≤ 100000) (w : World) :
    Calls Tryd.prog 6 #[.string s, .int .i64 k] w fun r w' => r = .returned (.string (s.extract 0 (min s.size k))) ∧ w = w' := by

  by_cases h : k < s.size
  · have HE := Lib.hid (show min s.size k = k by omega)
    go_enter Tryd.func6, Tryd.ntmps6
    go_wp2
    go_ret
    exact ⟨by rw [HE.out]; rfl, rfl⟩
  · have HE := Lib.hid (show s.extract 0 (min s.size k) = s by rw [show min s.size k = s.size by omega]; exact ByteArray.extract_zero_size)
    go_enter Tryd.func6, Tryd.ntmps6
    go_wp2
    go_ret
    exact ⟨by rw [HE.out]; rfl, rfl⟩
theorem IsRow.updB {S : List Nat} {k : IntKind} {w w' : World} {a : Option Addr} {len cap : Nat} {zs : List Int} (h : IsRow k w a len cap zs) (hx : Upd S w w') (hs : ∀ g o, a = some ⟨g, o, none⟩ → g ∉ S) : IsRow k w' a len cap zs := by
  obtain ⟨h1, h2, h3, h4, h5⟩ := h
  refine ⟨h1, h2, h3, h4, ?_⟩
  rcases h5 with h5 | ⟨g, o, h6, h7⟩
  · exact .inl h5
  · exact .inr ⟨g, o, h6, fun i hi => hx.cell (h7 i hi) (hs g o h6)⟩
theorem blk4 {w : World} {g : Nat} {a b c d : Value} {t : TypeId} (h : w.heap[g]? = some (.cells #[a, b, c, d] t (0, 0))) :
    w.cell? ⟨g, 0, none⟩ = some a ∧ w.cell? ⟨g, 1, none⟩ = some b ∧ w.cell? ⟨g, 2, none⟩ = some c ∧ w.cell? ⟨g, 3, none⟩ = some d ∧ w.frozen? ⟨g, 0, none⟩ = false ∧ w.frozen? ⟨g, 1, none⟩ = false ∧ w.frozen? ⟨g, 2, none⟩ = false ∧ w.frozen? ⟨g, 3, none⟩ = false :=
  ⟨cell_of h 0, cell_of h 1, cell_of h 2, cell_of h 3, free_of h 0, free_of h 1, free_of h 2, free_of h 3⟩
/-- Are two messages the same? -/
def eqM (m k : MV) : Bool := decide (m.reply = k.reply) && (decide (m.xid = k.xid) && (decide (m.proc = k.proc) && (m.body.toList == k.body.toList)))
end Go.Proofs.YtcnbgcoklbmdaaaDoor
