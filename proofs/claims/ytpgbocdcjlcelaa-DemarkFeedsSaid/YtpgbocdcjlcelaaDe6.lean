/- The deframer in memory; the walks of New, Errno, Held, Clean, forget, fail, body. -/
import Derived.Test.YtpgbocdcjlcelaaDe5
import Derived.Laws.EntriesVeiled
namespace Go.Proofs.Ytpgbocdcjlcelaa
open Go.ChangeShapes Go.WideShapes Go.ChangeAt Go.RowKit

def fid (mode : Nat) : Nat := if mode = 0 then 23 else if mode = 1 then 29 else 32
def fnOf (g mode : Nat) : Value := .func (.func (fid mode)) #[.pointer (some ⟨g, 0, none⟩)] #[]
/-- The blocks that are the deframer's own. -/
def foot (g : Nat) (vn vr : Value) : List Nat := g :: (vn.ownBlock.toList ++ vr.ownBlock.toList)
theorem foot_g (g : Nat) (vn vr : Value) : g ∈ foot g vn vr := by simp [foot]
theorem foot_n {g k : Nat} {vn : Value} (vr : Value) (h : vn.ownBlock = some k) : k ∈ foot g vn vr := by simp [foot, h]
theorem foot_r {g k : Nat} (vn : Value) {vr : Value} (h : vr.ownBlock = some k) : k ∈ foot g vn vr := by simp [foot, h]
theorem foot_or {g k : Nat} {vn vr : Value} (h : k ∈ foot g vn vr) : k = g ∨ vn.ownBlock = some k ∨ vr.ownBlock = some k := by simpa [foot] using h
def dcells (g m f : Nat) (s : St) (vn vr : Value) : Array Value := #[.int .i64 m, .int .i64 f, fnOf g s.mode, vn, vr, .int .i64 s.count, .int .i64 s.need, .bool s.ends, .int .i64 s.err]
structure DW (w : World) (b g m f : Nat) (s : St) (vn vr : Value) : Prop where
  blk : w.heap[g]? = some (.cells (dcells g m f s vn vr) 52 (0, 0))
  num : Owns w b 5 vn (bv s.num)
  rc : Owns w b 5 vr (bv s.rc)
  ne : ∀ k, vn.ownBlock = some k → vr.ownBlock ≠ some k
  wfn : ∀ z ∈ s.num, (Lit.int .u8 z).wf = true
  wfr : ∀ z ∈ s.rc, (Lit.int .u8 z).wf = true
  low : b ≤ g
theorem DW.lt {w : World} {b g m f : Nat} {s : St} {vn vr : Value} (h : DW w b g m f s vn vr) : g < w.heap.size := lt_of_heap h.blk
theorem DW.ext {w w' : World} {b g m f : Nat} {s : St} {vn vr : Value} (h : DW w b g m f s vn vr) (hx : Ext w w') : DW w' b g m f s vn vr :=
  ⟨hx.heap h.blk, h.num.ext hx, h.rc.ext hx, h.ne, h.wfn, h.wfr, h.low⟩
/-- A row of bytes is not the deframer's block. -/
theorem own_ne {w : World} {base g : Nat} {e t : TypeId} {v : Value} {xs : List Value} {cs : Array Value} (h : Owns w base e v xs) (hg : w.heap[g]? = some (.cells cs t (0, 0))) (he : e ≠ t) : v.ownBlock ≠ some g := by
  intro hv
  rcases h.form with ⟨rfl, _⟩ | ⟨k, cap, cur, rfl, _, _, _, hk, _⟩
  · simp [Value.ownBlock] at hv
  · simp only [Value.ownBlock, Option.some.injEq] at hv
    subst hv
    rw [hg] at hk
    simp at hk
    exact he hk.2.symm
theorem DW.foot_low {w : World} {b g m f : Nat} {s : St} {vn vr : Value} (h : DW w b g m f s vn vr) {k : Nat} (hk : k ∈ foot g vn vr) : b ≤ k ∧ k < w.heap.size := by
  rcases foot_or hk with rfl | hk | hk
  · exact ⟨h.low, h.lt⟩
  · exact h.num.lt hk
  · exact h.rc.lt hk
theorem DW.upd {S : List Nat} {w w' : World} {b g m f : Nat} {s : St} {vn vr : Value} (h : DW w b g m f s vn vr) (hx : Upd S w w') (hs : ∀ k ∈ foot g vn vr, k ∉ S) : DW w' b g m f s vn vr :=
  ⟨hx.heap h.blk (hs _ (foot_g _ _ _)), h.num.upd hx (fun _ hk => hs _ (foot_n _ hk)), h.rc.upd hx (fun _ hk => hs _ (foot_r _ hk)), h.ne, h.wfn, h.wfr, h.low⟩
/-- A cell of the deframer's block is turned. -/
theorem heap_put {w : World} {g i : Nat} {cs : Array Value} {t : TypeId} (v : Value) (h : w.heap[g]? = some (.cells cs t (0, 0))) : (w.setCell ⟨g, i, none⟩ v).heap[g]? = some (.cells (cs.setIfInBounds i v) t (0, 0)) :=
  heap_setCell_same w g i _ _ v h
theorem blk9 {w : World} {g : Nat} {c0 c1 c2 c3 c4 c5 c6 c7 c8 : Value} {t : TypeId} (h : w.heap[g]? = some (.cells #[c0, c1, c2, c3, c4, c5, c6, c7, c8] t (0, 0))) :
    w.cell? ⟨g, 0, none⟩ = some c0 ∧ w.cell? ⟨g, 1, none⟩ = some c1 ∧ w.cell? ⟨g, 2, none⟩ = some c2 ∧ w.cell? ⟨g, 3, none⟩ = some c3 ∧ w.cell? ⟨g, 4, none⟩ = some c4 ∧ w.cell? ⟨g, 5, none⟩ = some c5 ∧ w.cell? ⟨g, 6, none⟩ = some c6 ∧ w.cell? ⟨g, 7, none⟩ = some c7 ∧ w.cell? ⟨g, 8, none⟩ = some c8 ∧ ∀ i, w.frozen? ⟨g, i, none⟩ = false :=
  ⟨cell_of h 0, cell_of h 1, cell_of h 2, cell_of h 3, cell_of h 4, cell_of h 5, cell_of h 6, cell_of h 7, cell_of h 8, fun i => free_of h i⟩

/-! ### New -/
theorem new_ok (m f : Nat) (hm : m ≤ 4096) (hf1 : 1 ≤ f) (hf : f ≤ 64) (w : World) :
    Calls Try.prog 12 #[.int .i64 m, .int .i64 f] w fun r w' => r = .returned (.tuple #[.pointer (some ⟨w.heap.size, 0, none⟩), .int .i64 0]) ∧ DW w' w.heap.size w.heap.size m f St.new (.slice none 0 0) (.slice none 0 0) ∧ Ext w w' := by
  have hd1 : decide ((m : Int) < 0) = false := by simp
  have hd2 : decide (4096 < (m : Int)) = false := by simp; omega
  have hd3 : decide ((f : Int) < 1) = false := by simp; omega
  have hd4 : decide (64 < (f : Int)) = false := by simp; omega
  go_enter Try.func12, Try.ntmps12
  go_wp2_with fail
  go_ret2
  exact ⟨rfl, ⟨heap_alloc_new w _, Owns.nil _ _ _, Owns.nil _ _ _, by simp [Value.ownBlock], by simp [St.new], by simp [St.new], Nat.le_refl _⟩, (Ext.refl w).alloc _⟩
theorem new_bad (m f : Int) (h : m < 0 ∨ 4096 < m ∨ f < 1 ∨ 64 < f) (w : World) :
    Calls Try.prog 12 #[.int .i64 m, .int .i64 f] w fun r w' => r = .returned (.tuple #[.pointer none, .int .i64 1]) ∧ w = w' := by
  by_cases h1 : m < 0
  · have hd1 : decide (m < 0) = true := by simpa using h1
    go_enter Try.func12, Try.ntmps12
    go_wp2_with fail
    go_ret2
    exact ⟨rfl, rfl⟩
  · have hd1 : decide (m < 0) = false := by simpa using h1
    by_cases h2 : 4096 < m
    · have hd2 : decide (4096 < m) = true := by simpa using h2
      go_enter Try.func12, Try.ntmps12
      go_wp2_with fail
      go_ret2
      exact ⟨rfl, rfl⟩
    · have hd2 : decide (4096 < m) = false := by simpa using h2
      by_cases h3 : f < 1
      · have hd3 : decide (f < 1) = true := by simpa using h3
        go_enter Try.func12, Try.ntmps12
        go_wp2_with fail
        go_ret2
        exact ⟨rfl, rfl⟩
      · have hd3 : decide (f < 1) = false := by simpa using h3
        have hd4 : decide (64 < f) = true := by simp; omega
        go_enter Try.func12, Try.ntmps12
        go_wp2_with fail
        go_ret2
        exact ⟨rfl, rfl⟩

/-! ### what is told of it -/
section
variable {w : World} {b g m f : Nat} {s : St} {vn vr : Value}
theorem errno_any (h : DW w b g m f s vn vr) :
    Calls Try.prog 17 #[.pointer (some ⟨g, 0, none⟩)] w fun r w' => r = .returned (.int .i64 s.err) ∧ w = w' := by
  obtain ⟨c0, c1, c2, c3, c4, c5, c6, c7, c8, fz⟩ := blk9 h.blk
  have hlt := h.lt
  clear h
  generalize s.err = er at *
  go_enter Try.func17, Try.ntmps17
  go_wp2_with fail
  go_ret
  exact ⟨rfl, rfl⟩
theorem Owns.bytes {w : World} {base : Nat} {e : TypeId} {v : Value} {zs : List Int} (h : Owns w base e v (bv zs)) : ∃ a cap, v = .slice a zs.length cap ∧ Plain a cap ∧ zs.length ≤ cap ∧ cap ≤ maxLen := by
  rcases h.form with ⟨hv, h0⟩ | ⟨k, cap, cur, hv, _, h1, h2, _⟩
  · have hz : zs = [] := by simpa [bv] using h0
    subst hz
    exact ⟨none, 0, hv, .inl ⟨rfl, rfl⟩, by simp, by unfold maxLen; omega⟩
  · rw [bv_len] at hv h1
    exact ⟨_, cap, hv, .inr ⟨k, 0, rfl⟩, h1, h2⟩
set_option maxHeartbeats 1000000 in
theorem held_any (h : DW w b g m f s vn vr) (hr : s.rc.length ≤ 100000) (hn : s.num.length ≤ 100000) :
    Calls Try.prog 18 #[.pointer (some ⟨g, 0, none⟩)] w fun r w' => r = .returned (.int .i64 (s.rc.length + s.num.length : Nat)) ∧ Ext w w' := by
  obtain ⟨c0, c1, c2, c3, c4, c5, c6, c7, c8, fz⟩ := blk9 h.blk
  have hlt := h.lt
  obtain ⟨an, cn, rfl, _⟩ := h.num.bytes
  obtain ⟨ar, cr, rfl, _⟩ := h.rc.bytes
  clear h c0 c1 c2 c5 c6 c7 c8
  generalize s.rc.length = lr at *
  generalize s.num.length = ln at *
  go_enter Try.func18, Try.ntmps18
  go_wp2_with fail
  go_region
  all_goals
    go_wp2_with fail
    go_ret
    exact ⟨ret_int (by omega), (Ext.refl w).drew⟩
theorem clean_any (h : DW w b g m f s vn vr) (_hc : s.count ≤ 100000) (_hn : s.num.length ≤ 100000) :
    Calls Try.prog 19 #[.pointer (some ⟨g, 0, none⟩)] w fun r w' => r = .returned (.bool (s.err == 0 && s.count == 0 && s.num.length == 0)) ∧ w = w' := by
  obtain ⟨c0, c1, c2, c3, c4, c5, c6, c7, c8, fz⟩ := blk9 h.blk
  have hlt := h.lt
  obtain ⟨an, cn, rfl, _⟩ := h.num.bytes
  clear h c0 c1 c2 c4 c6 c7
  generalize s.err = er at *
  generalize s.count = ct at *
  generalize s.num.length = ln at *
  have e1 : (er == 0 && ct == 0 && ln == 0) = (er == 0 && (ct : Int) == 0 && (ln : Int) == 0) := by
    have a1 : (ct == 0) = ((ct : Int) == 0) := by rw [Bool.eq_iff_iff]; simp
    have a2 : (ln == 0) = ((ln : Int) == 0) := by rw [Bool.eq_iff_iff]; simp
    rw [a1, a2]
  rw [e1]
  clear e1
  cases h1 : (er == 0) with
  | false =>
    go_enter Try.func19, Try.ntmps19
    go_wp2_with fail
    go_ret
    exact ⟨rfl, rfl⟩
  | true =>
    cases h2 : ((ct : Int) == 0) with
    | false =>
      go_enter Try.func19, Try.ntmps19
      go_wp2_with fail
      go_ret
      exact ⟨rfl, rfl⟩
    | true =>
      cases h3 : ((ln : Int) == 0) with
      | false =>
        go_enter Try.func19, Try.ntmps19
        go_wp2_with fail
        go_ret
        exact ⟨rfl, rfl⟩
      | true =>
        go_enter Try.func19, Try.ntmps19
        go_wp2_with fail
        go_ret
        exact ⟨rfl, rfl⟩
theorem forget_any (g : Nat) (c : Int) (w : World) :
    Calls Try.prog 32 #[.pointer (some ⟨g, 0, none⟩), .int .u8 c] w fun r w' => r = .returned (.bool false) ∧ w = w' := by
  go_enter Try.func32, Try.ntmps32
  go_wp2_with fail
  go_ret
  exact ⟨rfl, rfl⟩
/-- The deframer's own fail. -/
theorem dfail_any (h : DW w b g m f s (.slice none 0 0) vr) (_hs : s.num = []) (e : Int) :
    Calls Try.prog 28 #[.pointer (some ⟨g, 0, none⟩), .int .i64 e] w fun r w' => r = .returned (.tuple #[]) ∧ DW w' b g m f (s.fail e) (.slice none 0 0) (.slice none 0 0) ∧ Upd [g] w w' := by
  obtain ⟨c0, c1, c2, c3, c4, c5, c6, c7, c8, fz⟩ := blk9 h.blk
  have hlt := h.lt
  have fz2 := fz 2
  have fz4 := fz 4
  have fz5 := fz 5
  have fz8 := fz 8
  have HB := Lib.hid h.blk
  have HL := Lib.hid h.low
  clear h fz
  generalize fnOf g s.mode = fv at *
  go_enter Try.func28, Try.ntmps28
  go_wp2_with fail
  go_end0
  refine ⟨rfl, ⟨?_, Owns.nil _ _ _, Owns.nil _ _ _, by simp [Value.ownBlock], by simp [St.fail], by simp [St.fail], HL.out⟩, ?_⟩
  · rw [heap_put _ (heap_put _ (heap_put _ (heap_put _ HB.out)))]
    rfl
  · exact ((((Upd.refl [g] w).setCell _ _ (by simp)).setCell _ _ (by simp)).setCell _ _ (by simp)).setCell _ _ (by simp)
end
end Go.Proofs.Ytpgbocdcjlcelaa
