/- The fids of a connection as a list of pairs, and the walks of their methods but All and Clear. -/
import Derived.Test.YtekdoannpkifaaaBase
namespace Go.Proofs.Ytekdoannpkifaaa
open Go.ChangeShapes Go.WideShapes Go.ChangeAt Go.RowKit

/-- What a number stands for. -/
structure FV where
  h1 : Int
  h2 : Int
  u1 : Int
  u2 : Int
  name : ByteArray
  dir : Bool
  opn : Bool
  mode : Int
  off : Int
  at_ : Int
def FV.cells (v : FV) : Array Value := #[.int .i64 v.h1, .int .i64 v.h2, .int .i64 v.u1, .int .i64 v.u2, .string v.name, .bool v.dir, .bool v.opn, .int .i64 v.mode, .int .i64 v.off, .int .i64 v.at_]
def FV.val (v : FV) : Value := .agg #[.int .i64 v.h1, .int .i64 v.h2, .int .i64 v.u1, .int .i64 v.u2, .string v.name, .bool v.dir, .bool v.opn, .int .i64 v.mode, .int .i64 v.off, .int .i64 v.at_]
def FV.zero : FV := ⟨0, 0, 0, 0, ⟨#[]⟩, false, false, 0, 0, 0⟩
def fev (p : Int × FV) : Int × Value := (p.1, p.2.val)
def lookF : List (Int × FV) → Int → Option FV
  | [], _ => none
  | p :: l, k => if p.1 = k then some p.2 else lookF l k
def delF : List (Int × FV) → Int → List (Int × FV)
  | [], _ => []
  | p :: l, k => if p.1 = k then l else p :: delF l k
def putF : List (Int × FV) → Int → FV → List (Int × FV)
  | [], k, v => [(k, v)]
  | p :: l, k, v => if p.1 = k then (k, v) :: l else p :: putF l k v
theorem look_fev (k : Int) : ∀ l : List (Int × FV), look (l.map fev) k = (lookF l k).map FV.val
  | [] => rfl
  | p :: l => by
    have ih := look_fev k l
    by_cases h : p.1 = k <;> simp [look, lookF, fev, h]
    simpa [fev] using ih
theorem del_fev (k : Int) : ∀ l : List (Int × FV), del (l.map fev) k = (delF l k).map fev
  | [] => rfl
  | p :: l => by
    have ih := del_fev k l
    by_cases h : p.1 = k <;> simp [del, delF, fev, h]
    simpa [fev] using ih
theorem put_fev (k : Int) (v : FV) : ∀ l : List (Int × FV), put (l.map fev) k v.val = (putF l k v).map fev
  | [] => rfl
  | p :: l => by
    have ih := put_fev k v l
    by_cases h : p.1 = k <;> simp [put, putF, fev, h]
    simpa [fev] using ih
theorem putF_none {k : Int} {v : FV} : ∀ {l : List (Int × FV)}, lookF l k = none → putF l k v = l ++ [(k, v)]
  | [], _ => rfl
  | p :: l, h => by
    unfold lookF at h
    by_cases hk : p.1 = k
    · rw [if_pos hk] at h; cases h
    · rw [if_neg hk] at h
      simp [putF, hk, putF_none h]

/-- The fids behind the pointer to block pb: their bound, and they (block mb). -/
structure FidW (w : World) (pb mb : Nat) (most : Int) (l : List (Int × FV)) : Prop where
  ptr : w.heap[pb]? = some (.cells #[.int .i64 most, .map (some mb)] 60 (0, 0))
  map : MapIs w mb .i64 (l.map fev)
section
variable {w w' : World} {pb mb : Nat} {most : Int} {l : List (Int × FV)}
theorem FidW.ne (h : FidW w pb mb most l) : pb ≠ mb := by
  rintro rfl
  obtain ⟨es, clock, h1, _⟩ := h.map
  rw [h.ptr] at h1
  cases h1
theorem FidW.ext (h : FidW w pb mb most l) (k : Ext w w') : FidW w' pb mb most l := ⟨k.heap h.ptr, h.map.ext k⟩
end
theorem drew_ext (w : World) : Ext w w.drew := (Ext.refl w).drew
theorem zero32 (w : World) : (zeroValue 32).run Try.prog w = .ok FV.zero.val w := by kernel_rfl

theorem around_any (n m : Int) (w : World) (hm : 0 < m) (hn : -9223372036854775808 ≤ n) (hn2 : n ≤ 9223372036854775807) :
    Calls Try.prog 8 #[.int .i64 n, .int .i64 m] w fun r w' => r = .returned (.int .i64 (arnd n m)) ∧ w = w' := by
  by_cases h : n < 0
  · have H := Lib.hid (arnd_neg n m h)
    go_enter Try.func8, Try.ntmps8
    go_wp2
    go_ret
    exact ⟨ret_int H.out.symm, rfl⟩
  · have H := Lib.hid (arnd_pos n m h)
    go_enter Try.func8, Try.ntmps8
    go_wp2
    go_ret
    exact ⟨ret_int H.out.symm, rfl⟩
theorem new_no (most : Int) (w : World) (h : most < 1 ∨ 16 < most) :
    Calls Try.prog 9 #[.int .i64 most] w fun r w' => r = .returned (.tuple #[.pointer none, .int .i64 1]) ∧ w = w' := by
  by_cases h1 : most < 1
  · have hd : decide (most < 1) = true := by simpa using h1
    go_enter Try.func9, Try.ntmps9
    go_wp2
    go_ret2
    exact ⟨rfl, rfl⟩
  · have hd : decide (most < 1) = false := by simpa using h1
    have hd2 : decide (16 < most) = true := by simp; omega
    go_enter Try.func9, Try.ntmps9
    go_wp2
    go_ret2
    exact ⟨rfl, rfl⟩
theorem new_yes (most : Int) (w : World) (h1 : 1 ≤ most) (h2 : most ≤ 16) :
    Calls Try.prog 9 #[.int .i64 most] w fun r w' => r = .returned (.tuple #[.pointer (some ⟨w.heap.size + 1, 0, none⟩), .int .i64 0]) ∧ FidW w' (w.heap.size + 1) w.heap.size most [] ∧ Ext w w' := by
  have hd : decide (most < 1) = false := by simp; omega
  have hd2 : decide (16 < most) = false := by simp; omega
  have hmm := @run_makeMap Try.prog
  go_enter Try.func9, Try.ntmps9
  go_wp2
  go_ret2
  exact ⟨rfl, ⟨heap_alloc2_new w _ _, ((MapIs.new w .i64).ext ((Ext.refl _).alloc _))⟩, ((Ext.refl w).alloc _).alloc _⟩

section
variable (pb mb : Nat) (most : Int) (l : List (Int × FV)) (k : Int) (w : World)
theorem lookup_none (h : FidW w pb mb most l) (hk : lookF l k = none) : ∀ o, (Instr.lookup 58 (.map (some mb)) (.int .i64 k) true).run Try.prog (w.alloc o) = .ok (.tuple #[FV.zero.val, .bool false]) (w.alloc o) := fun o => by
  have hl := (h.map.ext ((Ext.refl w).alloc o)).lookup (P := Try.prog) Try.underlying58 Try.underlying3 (zero32 _) k
  rw [look_fev, hk] at hl
  exact hl
theorem lookup_none0 (h : FidW w pb mb most l) (hk : lookF l k = none) : (Instr.lookup 58 (.map (some mb)) (.int .i64 k) true).run Try.prog w = .ok (.tuple #[FV.zero.val, .bool false]) w := by
  have hl := h.map.lookup (P := Try.prog) Try.underlying58 Try.underlying3 (zero32 _) k
  rw [look_fev, hk] at hl
  exact hl
theorem lookup_some {v : FV} (h : FidW w pb mb most l) (hk : lookF l k = some v) : ∀ o, (Instr.lookup 58 (.map (some mb)) (.int .i64 k) true).run Try.prog (w.alloc o) = .ok (.tuple #[v.val, .bool true]) (w.alloc o) := fun o => by
  have hl := (h.map.ext ((Ext.refl w).alloc o)).lookup (P := Try.prog) Try.underlying58 Try.underlying3 (zero32 _) k
  rw [look_fev, hk] at hl
  exact hl
theorem lookup_some0 {v : FV} (h : FidW w pb mb most l) (hk : lookF l k = some v) : (Instr.lookup 58 (.map (some mb)) (.int .i64 k) true).run Try.prog w = .ok (.tuple #[v.val, .bool true]) w := by
  have hl := h.map.lookup (P := Try.prog) Try.underlying58 Try.underlying3 (zero32 _) k
  rw [look_fev, hk] at hl
  exact hl

set_option maxHeartbeats 1000000 in
theorem free_busy {v : FV} (h : FidW w pb mb most l) (hk : lookF l k = some v) :
    Calls Try.prog 23 #[.pointer (some ⟨pb, 0, none⟩), .int .i64 k] w fun r w' => r = .returned (.int .i64 18) ∧ Ext w w' := by
  have hl := lookup_some0 pb mb most l k w h hk
  unfold FV.val at hl
  obtain ⟨c0, c1, f0, f1⟩ := blk2 h.ptr
  have hpb := lt_of_heap h.ptr
  clear h hk
  go_enter Try.func23, Try.ntmps23
  go_wp2_with fail
  go_ret
  exact ⟨rfl, (Ext.refl w).alloc _⟩
set_option maxHeartbeats 1000000 in
theorem free_none (h : FidW w pb mb most l) (hk : lookF l k = none) (b : Bool) (hb : decide (most ≤ (l.length : Int)) = b) :
    Calls Try.prog 23 #[.pointer (some ⟨pb, 0, none⟩), .int .i64 k] w fun r w' => r = .returned (.int .i64 (if b then 5 else 0)) ∧ Ext w w' := by
  have hl := lookup_none0 pb mb most l k w h hk
  unfold FV.val at hl
  have hlen := Lib.hid (fun o => ((h.map.ext ((Ext.refl w).alloc o)).ext (drew_ext _)).len (P := Try.prog) Try.underlying58 3)
  obtain ⟨c0, c1, f0, f1⟩ := blk2 h.ptr
  have hpb := lt_of_heap h.ptr
  clear h hk
  cases b
  all_goals
    go_enter Try.func23, Try.ntmps23
    go_wp2_with fail
    have hlen' := hlen.out
    simp only [List.length_map] at hlen'
    go_region
    clear hlen'
    go_wp2_with fail
    go_ret
    exact ⟨rfl, ((Ext.refl w).alloc _).drew⟩
end
end Go.Proofs.Ytekdoannpkifaaa
