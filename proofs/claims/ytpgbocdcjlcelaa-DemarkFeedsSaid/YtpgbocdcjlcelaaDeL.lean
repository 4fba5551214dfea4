/- For the walk of the document's answer of all bytes: bytes as a size; rows that grow. -/
import Derived.Test.YtpgbocdcjlcelaaDeH
namespace Go.Proofs.Ytpgbocdcjlcelaa
open Go.ChangeShapes Go.WideShapes Go.ChangeAt Go.RowKit

theorem sz_bytes {x0 x1 x2 x3 : Int} {t : List Int} (h0 : 0 ≤ x0 ∧ x0 ≤ 255) (h1 : 0 ≤ x1 ∧ x1 ≤ 255) (h2 : 0 ≤ x2 ∧ x2 ≤ 255) (h3 : 0 ≤ x3 ∧ x3 ≤ 255) : x0 % 128 * 16777216 + x1 * 65536 + x2 * 256 + x3 = (sz (x0 :: x1 :: x2 :: x3 :: t) : Int) ∧ decide (127 < x0) = lst (x0 :: x1 :: x2 :: x3 :: t) := by
  have hv : val ((x0 :: x1 :: x2 :: x3 :: t).take 4) = ((x0 * 256 + x1) * 256 + x2) * 256 + x3 := by simp [val]
  unfold sz lst low31 top31
  rw [hv]
  refine ⟨by omega, ?_⟩
  rw [decide_eq_decide]
  omega
theorem blk4 {w : World} {g : Nat} {c0 c1 c2 c3 : Value} {t : TypeId} (h : w.heap[g]? = some (.cells #[c0, c1, c2, c3] t (0, 0))) :
    w.cell? ⟨g, 0, none⟩ = some c0 ∧ w.cell? ⟨g, 1, none⟩ = some c1 ∧ w.cell? ⟨g, 2, none⟩ = some c2 ∧ w.cell? ⟨g, 3, none⟩ = some c3 ∧ ∀ i, w.frozen? ⟨g, i, none⟩ = false :=
  ⟨cell_of h 0, cell_of h 1, cell_of h 2, cell_of h 3, fun i => free_of h i⟩
theorem rows_keep {w w' : World} {b p q : Nat} {v : Value} {L : List (List Int)} {cs ds : Array Value} (h : OwnsRows w b v L) (hp : w.heap[p]? = some (.cells cs 38 (0, 0))) (hq : w.heap[q]? = some (.cells ds 38 (0, 0))) (hu : Upd [p, q] w w') : OwnsRows w' b v L := by
  obtain ⟨xs, o1, e1⟩ := h
  refine ⟨xs, o1.upd hu (fun k hk hm => ?_), e1.mono fun x y r => ⟨r.1.upd hu (fun k hk hm => ?_), r.2⟩⟩
  · simp at hm
    rcases hm with rfl | rfl
    · exact own_ne o1 hp (by decide) hk
    · exact own_ne o1 hq (by decide) hk
  · simp at hm
    rcases hm with rfl | rfl
    · exact own_ne r.1 hp (by decide) hk
    · exact own_ne r.1 hq (by decide) hk
theorem OwnsRows.push2 {w : World} {base : Nat} {v x : Value} {yss : List (List Int)} {y : List Int} (h : OwnsRows w base v yss) (hx : OwnRow w base x y) (hb : base ≤ w.heap.size) (hl : yss.length ≤ 10000) :
    ∃ a c w', (Builtin.append_ #[23, 23] 23 #[v, .slice (some ⟨w.heap.size, 0, none⟩) 1 1]).run Try.prog (w.alloc (.cells #[x] 22)) = .ok (.slice a (yss.length + 1) c) w' ∧ OwnsRows w' base (.slice a (yss.length + 1) c) (yss ++ [y]) ∧ Upd v.ownBlock.toList w w' := by
  obtain ⟨xs, h1, h2⟩ := h
  have hlen := h2.len
  obtain ⟨v', w', p1, p2, p3, _⟩ := h1.append1 (P := Try.prog) (t := 23) (ty := 23) (.slice none 0 0) 24 Try.underlying23 infoRow rfl x hx.1.one (by unfold maxLen; omega) (by omega) hb
  have u1 : Upd v.ownBlock.toList w w' := (((Ext.refl w).alloc _).upd _).trans (grown_upd1 p3)
  have row : ∀ x y, OwnRow w base x y → OwnRow w' base x y := fun x y q => ⟨q.1.upd u1 (fun k hk => by simp; exact fun e => q.1.apart h1 (by decide) hk e), q.2⟩
  have hO : OwnsRows w' base v' (yss ++ [y]) := ⟨xs ++ [x], p2, (h2.mono row).snoc (row _ _ hx)⟩
  obtain ⟨a, c, rfl, _, _⟩ := hO.rows
  rw [List.length_append, List.length_singleton] at *
  exact ⟨a, c, w', p1, hO, u1⟩
/-- What came in is appended to a row of the call's own: where it lies. -/
theorem app_row2 {w : World} {base : Nat} {v : Value} {xs : List Int} (h : Owns w base 5 v (bv xs)) {a : Option Addr} {len cap c : Nat} {ys : List Int} (hy : IsRow .u8 w a len cap ys) (ha : a = none → c = 0) (hl : xs.length + len ≤ 1000000) (hb : base ≤ w.heap.size) :
    ∃ A C w', (Builtin.append_ #[22, 22] 22 #[v, .slice a len c]).run Try.prog w = .ok (.slice A (xs.length + len) C) w' ∧ Owns w' base 5 (.slice A (xs.length + len) C) (bv (xs ++ ys)) ∧ Upd v.ownBlock.toList w w' ∧ ((Value.slice A (xs.length + len) C).ownBlock = v.ownBlock ∨ (Value.slice A (xs.length + len) C).ownBlock = some w.heap.size) := by
  obtain ⟨v', w', p1, p2, p3⟩ := app_row h (c := c) hy ha (by rw [bv_len]; omega) hb 22
  rw [← bv_app] at p2
  have hyl := hy.1
  obtain ⟨A, C, hv', _, _, _⟩ := p2.bytes
  rw [List.length_append, hyl] at hv'
  subst hv'
  refine ⟨A, C, w', p1, p2, grown_upd1 p3, ?_⟩
  obtain ⟨i0, hi, hz0, hz1, hz2⟩ := info_parts infoU8
  rcases Nat.eq_zero_or_pos len with h0 | h0
  · subst h0
    have hS : Src Try.prog i0.size 22 (.slice a 0 c) 0 [] w := by
      cases a with
      | none => exact Src.ofNil w Try.underlying22 c
      | some ad => exact Src.ofSlice w Try.underlying22 ad 0 c [] (by simp) (fun j u hj => by simp at hj) (by simp)
    have hv : ∃ A n cp, v = .slice A n cp ∧ n ≤ cp := by
      rcases h.form with ⟨hv, _⟩ | ⟨g, cp, cur, hv, _, hn, _⟩
      · exact ⟨_, _, _, hv, by omega⟩
      · exact ⟨_, _, _, hv, hn⟩
    obtain ⟨A2, n2, cp, rfl, hle⟩ := hv
    have q := run_append_nothing w 22 22 22 5 i0 Try.underlying22 hi A2 n2 cp hle _ hS
    rw [q] at p1
    injection p1 with p1 _
    exact .inl (by rw [p1])
  · rcases hy.2.2.2.2 with hx | ⟨g, o, rfl, hc⟩
    · omega
    · obtain ⟨v2, w2, q1, _, _, _, q5⟩ := run_append_own_at (P := Try.prog) w base 22 22 5 i0 _ 1 1 Try.underlying22 hi hz0 hz1 hz2 rfl (by decide) v (bv xs).length (bv xs) h ⟨g, o, none⟩ len c (bv ys) (by rw [bv_len, hy.1]; omega)
        (fun j u hj => by
          have hj' : j < ys.length := by have := (List.getElem?_eq_some_iff.1 hj).1; rwa [bv_len] at this
          rw [Go.WideShapes.add_plain, hc j (by have := hy.1; omega), ← hj]
          simp [bv, List.getD, List.getElem?_eq_getElem hj']) (by
          intro u hu
          obtain ⟨z, _, rfl⟩ := List.mem_map.1 hu
          rfl) (by rw [bv_len]; unfold maxLen; omega) (by rw [bv_len]; omega) hb
      rw [q1] at p1
      injection p1 with p1 _
      rw [← p1]
      exact q5
/-- What All keeps while it goes on. -/
def AllW (w wr : World) (m f : Nat) (v0 v8 : Value) (R : RD) (n : Nat) : Prop :=
  ∃ A c bs rc L vL, v0 = .slice A bs.length c ∧ IsRow .u8 w A bs.length c bs ∧ Plain A c ∧ Owns wr w.heap.size 5 v8 (bv rc) ∧ (∀ z ∈ rc, (Lit.int .u8 z).wf = true) ∧
    wr.heap[w.heap.size + 1]? = some (.cells #[vL, .int .i64 0, .int .i64 0, .bool false] 38 (0, 0)) ∧ wr.heap[w.heap.size]? = some (.cells #[.slice none 0 0, .int .i64 0, .int .i64 0, .bool false] 38 (0, 0)) ∧
    TRows wr w.heap.size v8.ownBlock.toList vL L ∧ rc.length ≤ m ∧ n ≤ f ∧ 4 * L.length + bs.length ≤ 2000 ∧ ref m f bs rc n L = R ∧ Ext w wr
end Go.Proofs.Ytpgbocdcjlcelaa
