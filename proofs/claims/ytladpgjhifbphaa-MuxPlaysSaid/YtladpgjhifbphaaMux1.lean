/- The mux of numbers as a list of calls, and the walks of its methods but Call and Live. -/
import Derived.Test.YtladpgjhifbphaaBase
namespace Go.Proofs.Ytladpgjhifbphaa
open Go.ChangeShapes Go.WideShapes Go.ChangeAt Go.RowKit

/-- A call that waits: its number, its procedure, what is kept with it. -/
structure MC where
  k : Int
  p : Int
  x : Int
def MC.ev (c : MC) : Int × Value := (c.k, .agg #[.int .u32 c.p, .int .i64 c.x])
def lookC : List MC → Int → Option MC
  | [], _ => none
  | c :: l, k => if c.k = k then some c else lookC l k
def delC : List MC → Int → List MC
  | [], _ => []
  | c :: l, k => if c.k = k then l else c :: delC l k
theorem look_ev (k : Int) : ∀ l : List MC, look (l.map MC.ev) k = (lookC l k).map fun c => c.ev.2
  | [] => rfl
  | c :: l => by
    have ih := look_ev k l
    by_cases h : c.k = k <;> simp [look, lookC, MC.ev, h] <;> simpa [MC.ev] using ih
theorem del_ev (k : Int) : ∀ l : List MC, del (l.map MC.ev) k = (delC l k).map MC.ev
  | [] => rfl
  | c :: l => by
    have ih := del_ev k l
    by_cases h : c.k = k <;> simp [del, delC, MC.ev, h] <;> simpa [MC.ev] using ih
theorem put_ev (k p x : Int) : ∀ l : List MC, lookC l k = none → put (l.map MC.ev) k (.agg #[.int .u32 p, .int .i64 x]) = (l ++ [(⟨k, p, x⟩ : MC)]).map MC.ev
  | [], _ => rfl
  | c :: l, h => by
    unfold lookC at h
    by_cases hk : c.k = k
    · simp [hk] at h
    · rw [if_neg hk] at h
      have ih := put_ev k p x l h
      simp [put, MC.ev, hk]
      simpa [MC.ev] using ih

/-- The mux behind the pointer to block pb: its next number, its bound, its calls (block mb). -/
structure MuxW (w : World) (pb mb : Nat) (next most : Int) (l : List MC) : Prop where
  ptr : w.heap[pb]? = some (.cells #[.int .u32 next, .int .i64 most, .map (some mb)] 70 (0, 0))
  map : MapIs w mb .u32 (l.map MC.ev)
theorem MuxW.ne {w : World} {pb mb : Nat} {next most : Int} {l : List MC} (h : MuxW w pb mb next most l) : pb ≠ mb := by
  rintro rfl
  obtain ⟨es, clock, h1, _⟩ := h.map
  rw [h.ptr] at h1
  cases h1
theorem MuxW.ext {w w' : World} {pb mb : Nat} {next most : Int} {l : List MC} (h : MuxW w pb mb next most l) (k : Ext w w') : MuxW w' pb mb next most l := ⟨k.heap h.ptr, h.map.ext k⟩
theorem MuxW.upd {S : List Nat} {w w' : World} {pb mb : Nat} {next most : Int} {l : List MC} (h : MuxW w pb mb next most l) (k : Upd S w w') (h1 : pb ∉ S) (h2 : mb ∉ S) : MuxW w' pb mb next most l := ⟨k.heap h.ptr h1, h.map.upd k h2⟩

theorem zero72 (w : World) : (zeroValue 72).run Try.prog w = .ok (.agg #[.int .u32 0, .int .i64 0]) w := by kernel_rfl

theorem around_any (n m : Int) (w : World) (hm : 0 < m) (hn : -9223372036854775808 ≤ n) (hn2 : n ≤ 9223372036854775807) :
    Calls Try.prog 9 #[.int .i64 n, .int .i64 m] w fun r w' => r = .returned (.int .i64 (arnd n m)) ∧ w = w' := by
  by_cases h : n < 0
  · have H := Lib.hid (arnd_neg n m h)
    go_enter Try.func9, Try.ntmps9
    go_wp2
    go_ret
    exact ⟨ret_int H.out.symm, rfl⟩
  · have H := Lib.hid (arnd_pos n m h)
    go_enter Try.func9, Try.ntmps9
    go_wp2
    go_ret
    exact ⟨ret_int H.out.symm, rfl⟩

theorem new_no (first most : Int) (w : World) (h : most < 1 ∨ 16 < most) :
    Calls Try.prog 10 #[.int .u32 first, .int .i64 most] w fun r w' => r = .returned (.tuple #[.pointer none, .int .i64 1]) ∧ w = w' := by
  by_cases h1 : most < 1
  · have hd : decide (most < 1) = true := by simpa using h1
    go_enter Try.func10, Try.ntmps10
    go_wp2
    go_ret2
    exact ⟨rfl, rfl⟩
  · have hd : decide (most < 1) = false := by simpa using h1
    have hd2 : decide (16 < most) = true := by simp; omega
    go_enter Try.func10, Try.ntmps10
    go_wp2
    go_ret2
    exact ⟨rfl, rfl⟩
theorem new_yes (first most : Int) (w : World) (h1 : 1 ≤ most) (h2 : most ≤ 16) :
    Calls Try.prog 10 #[.int .u32 first, .int .i64 most] w fun r w' => r = .returned (.tuple #[.pointer (some ⟨w.heap.size + 1, 0, none⟩), .int .i64 0]) ∧ MuxW w' (w.heap.size + 1) w.heap.size first most [] ∧ Ext w w' := by
  have hd : decide (most < 1) = false := by simp; omega
  have hd2 : decide (16 < most) = false := by simp; omega
  have hmm := @run_makeMap Try.prog
  go_enter Try.func10, Try.ntmps10
  go_wp2
  go_ret2
  exact ⟨rfl, ⟨heap_alloc2_new w _ _, ((MapIs.new w .u32).ext ((Ext.refl _).alloc _))⟩, ((Ext.refl w).alloc _).alloc _⟩

theorem has_any (pb mb : Nat) (next most : Int) (l : List MC) (k : Int) (w : World) (h : MuxW w pb mb next most l) :
    Calls Try.prog 19 #[.pointer (some ⟨pb, 0, none⟩), .int .u32 k] w fun r w' => r = .returned (.bool (lookC l k).isSome) ∧ Ext w w' := by
  have hl := h.map.lookup (P := Try.prog) Try.underlying68 Try.underlying22 (zero72 w) k
  rw [look_ev] at hl
  obtain ⟨c0, c1, c2, f0, f1, f2⟩ := blk3 h.ptr
  have hpb := lt_of_heap h.ptr
  clear h
  cases hc : lookC l k with
  | none =>
    rw [hc] at hl
    simp only [Option.map_none, Option.getD_none, Option.isSome_none] at hl
    go_enter Try.func19, Try.ntmps19
    go_wp2
    go_ret
    exact ⟨rfl, (Ext.refl w).alloc _⟩
  | some c =>
    rw [hc] at hl
    simp only [Option.map_some, Option.getD_some, Option.isSome_some, MC.ev] at hl
    go_enter Try.func19, Try.ntmps19
    go_wp2
    go_ret
    exact ⟨rfl, (Ext.refl w).alloc _⟩
theorem len_any (pb mb : Nat) (next most : Int) (l : List MC) (w : World) (h : MuxW w pb mb next most l) :
    Calls Try.prog 17 #[.pointer (some ⟨pb, 0, none⟩)] w fun r w' => r = .returned (.int .i64 l.length) ∧ w = w' := by
  have hl := Lib.hid (h.map.len (P := Try.prog) Try.underlying68 3)
  obtain ⟨c0, c1, c2, f0, f1, f2⟩ := blk3 h.ptr
  have hpb := lt_of_heap h.ptr
  clear h
  go_enter Try.func17, Try.ntmps17
  go_wp2_with (at_len; refine wpList_len_run rfl _ _ rfl _ _ rfl hl.out ?_)
  go_ret
  exact ⟨by simp, rfl⟩
theorem seek_any (pb mb : Nat) (next most : Int) (l : List MC) (n : Int) (w : World) (h : MuxW w pb mb next most l) :
    Calls Try.prog 18 #[.pointer (some ⟨pb, 0, none⟩), .int .u32 n] w fun r w' => r = .returned (.tuple #[]) ∧ MuxW w' pb mb n most l ∧ Upd [pb, mb] w w' := by
  have hne := h.ne
  obtain ⟨c0, c1, c2, f0, f1, f2⟩ := blk3 h.ptr
  have hpb := lt_of_heap h.ptr
  have H := Lib.hid h
  clear h
  go_enter Try.func18, Try.ntmps18
  go_wp2
  go_end0
  exact ⟨rfl, ⟨heap_setCell_same w pb 0 _ _ _ H.out.ptr, H.out.map.of_heap (heap_setCell_other w _ _ _ (by simpa using hne.symm))⟩, (Upd.refl _ w).setCell _ _ (by simp)⟩
end Go.Proofs.Ytladpgjhifbphaa
