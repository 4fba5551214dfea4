/- The errors' table as a plain list, and what the walks of this seat say of the world. No conditions. -/
import Derived.Test.YtfbdahhlhmdicaaDoorRows
import Derived.WalkKit
import Derived.ProofKit
import Derived.OpenShut
import Derived.Handy
import Derived.Outline
import Derived.WalkSpells
import Derived.WalkLawsBesides
import Derived.Laws.Rows
import Derived.Lib.Hide
import Derived.Deep.RegionHeld3
import Derived.Deep.DeepMust
import Derived.Deep.DeepFit
import Derived.Deep.LoopGhost
import Derived.Deep.QuietTactic
import Derived.BigQuiet
import Derived.Lib.LaidTab
namespace Go.Proofs.YtfbdahhlhmdicaaDoor
open Go.ChangeShapes Go.WideShapes Go.ChangeAt Go.RowKit

/-- A row of the table: an error's number, its status, its code, its text. -/
structure Row where
  e : Int
  s : Int
  c : Int
  t : List UInt8
theorem Row.same {a b : Row} (h : a.e = b.e ∧ a.s = b.s ∧ a.c = b.c ∧ a.t = b.t) : a = b := by
  cases a; cases b
  obtain ⟨h1, h2, h3, h4⟩ := h
  simp_all
instance rowEq (a b : Row) : Decidable (a = b) :=
  if h : a.e = b.e ∧ a.s = b.s ∧ a.c = b.c ∧ a.t = b.t then isTrue (Row.same h) else isFalse (fun e => h (by subst e; exact ⟨rfl, rfl, rfl, rfl⟩))

def rows : List Row :=
  [⟨0, 0, 0, [111, 107]⟩,
   ⟨8, 70, 1, [115, 116, 97, 108, 101]⟩,
   ⟨9, 2, 2, [110, 111, 32, 115, 117, 99, 104, 32, 110, 97, 109, 101]⟩,
   ⟨10, 17, 3, [110, 97, 109, 101, 32, 101, 120, 105, 115, 116, 115]⟩,
   ⟨11, 20, 4, [110, 111, 116, 32, 97, 32, 100, 105, 114, 101, 99, 116, 111, 114, 121]⟩,
   ⟨12, 21, 5, [105, 115, 32, 97, 32, 100, 105, 114, 101, 99, 116, 111, 114, 121]⟩,
   ⟨13, 66, 6, [110, 111, 116, 32, 101, 109, 112, 116, 121]⟩,
   ⟨14, 28, 7, [110, 111, 32, 115, 112, 97, 99, 101]⟩,
   ⟨15, 27, 8, [116, 111, 111, 32, 98, 105, 103]⟩,
   ⟨16, 63, 9, [98, 97, 100, 32, 110, 97, 109, 101]⟩,
   ⟨20, 10003, 10, [98, 97, 100, 32, 99, 111, 111, 107, 105, 101]⟩,
   ⟨17, 10101, 11, [98, 97, 100, 32, 102, 105, 100]⟩,
   ⟨18, 10102, 12, [102, 105, 100, 32, 105, 110, 32, 117, 115, 101]⟩,
   ⟨19, 10103, 13, [98, 97, 100, 32, 109, 111, 100, 101]⟩,
   ⟨22, 10104, 14, [102, 108, 117, 115, 104, 101, 100]⟩,
   ⟨21, 5, 15, [105, 47, 111, 32, 101, 114, 114, 111, 114]⟩,
   ⟨7, 10105, 16, [116, 97, 103, 32, 105, 110, 32, 117, 115, 101]⟩,
   ⟨5, 10106, 17, [116, 111, 111, 32, 109, 97, 110, 121, 32, 114, 101, 113, 117, 101, 115, 116, 115]⟩,
   ⟨2, 10107, 18, [98, 97, 100, 32, 109, 101, 115, 115, 97, 103, 101]⟩]

/-- A row as a value of the program's. -/
def Row.cells (r : Row) : List Value := [.int .i64 r.e, .int .u32 r.s, .int .i64 r.c, .string ⟨r.t.toArray⟩]
def Row.val (r : Row) : Value := .agg #[.int .i64 r.e, .int .u32 r.s, .int .i64 r.c, .string ⟨r.t.toArray⟩]
def zeroRow : Row := ⟨0, 0, 0, []⟩
def rowAt (k : Nat) : Row := rows.getD k zeroRow
def ioRow : Row := ⟨21, 5, 15, [105, 47, 111, 32, 101, 114, 114, 111, 114]⟩
def tabCells : Array Value := (rows.flatMap Row.cells).toArray

/-- The world has grown: what was there is as it was. -/
def Ext (w w' : World) : Prop := Below w.heap.size w w'
theorem Ext.refl (w : World) : Ext w w := Below.refl _ _
theorem Ext.trans {a b c : World} (h : Ext a b) (k : Ext b c) : Ext a c := Below.trans h (Below.mono k h.size)
theorem Ext.drew {a b : World} (h : Ext a b) : Ext a b.drew := Below.drew h
theorem Ext.alloc {a b : World} (h : Ext a b) (o : Obj) : Ext a (b.alloc o) := Below.alloc h h.size o
theorem Ext.cell {a b : World} (h : Ext a b) {p : Addr} {v : Value} (hp : a.cell? p = some v) : b.cell? p = some v :=
  (Below.cell h (World.block_lt_of_cell? a p hp)).trans hp
theorem Ext.heap {a b : World} (h : Ext a b) {g : Nat} {o : Obj} (hp : a.heap[g]? = some o) : b.heap[g]? = some o :=
  (h.block g (Array.getElem?_eq_some_iff.1 hp).1).trans hp

/-- The table lies in the first block. -/
def TabW (w : World) : Prop := ∃ t fr, w.heap[0]? = some (.cells tabCells t fr)
theorem TabW.ext {w w' : World} (h : TabW w) (k : Ext w w') : TabW w' := by
  obtain ⟨t, fr, h⟩ := h
  exact ⟨t, fr, k.heap h⟩

theorem of1 (r : Row) (n : Int) (b o : Nat) (w : World) (hp : w.cell? ⟨b, o, none⟩ = some (.int .i64 n)) :
    Calls Tryd.prog 27 #[r.val, .pointer (some ⟨b, o, none⟩)] w fun e w' => e = .returned (.bool (r.e == n)) ∧ Ext w w' := by
  have hb : b < w.heap.size := World.block_lt_of_cell? w ⟨b, o, none⟩ hp
  unfold Row.val
  go_enter Tryd.func27, Tryd.ntmps27
  go_wp2
  go_ret
  exact ⟨rfl, Ext.alloc (Ext.refl _) _⟩
theorem fs1 (r : Row) (n : Int) (b o : Nat) (w : World) (hp : w.cell? ⟨b, o, none⟩ = some (.int .u32 n)) :
    Calls Tryd.prog 25 #[r.val, .pointer (some ⟨b, o, none⟩)] w fun e w' => e = .returned (.bool (r.s == n)) ∧ Ext w w' := by
  have hb : b < w.heap.size := World.block_lt_of_cell? w ⟨b, o, none⟩ hp
  unfold Row.val
  go_enter Tryd.func25, Tryd.ntmps25
  go_wp2
  go_ret
  exact ⟨rfl, Ext.alloc (Ext.refl _) _⟩
theorem fc1 (r : Row) (n : Int) (b o : Nat) (w : World) (hp : w.cell? ⟨b, o, none⟩ = some (.int .i64 n)) :
    Calls Tryd.prog 26 #[r.val, .pointer (some ⟨b, o, none⟩)] w fun e w' => e = .returned (.bool (r.c == n)) ∧ Ext w w' := by
  have hb : b < w.heap.size := World.block_lt_of_cell? w ⟨b, o, none⟩ hp
  unfold Row.val
  go_enter Tryd.func26, Tryd.ntmps26
  go_wp2
  go_ret
  exact ⟨rfl, Ext.alloc (Ext.refl _) _⟩
end Go.Proofs.YtfbdahhlhmdicaaDoor
