/- The walks of codes' exported functions: each tells a field of the row that is picked. -/
import Derived.Test.YtfbdahhlhmdicaaDoorA2
namespace Go.Proofs.YtfbdahhlhmdicaaDoor
open Go.ChangeShapes Go.WideShapes Go.ChangeAt Go.RowKit

def byE (e : Int) : Row := pick fun r => r.e == e
def byS (n : Int) : Row := pick fun r => r.s == n
def byC (n : Int) : Row := pick fun r => r.c == n

theorem hcf25 (args : Array Value) (w : World) : (callFunc 25 args).run Tryd.prog w = .ok (.enter 25 args) w := by kernel_rfl
theorem hcf26 (args : Array Value) (w : World) : (callFunc 26 args).run Tryd.prog w = .ok (.enter 26 args) w := by kernel_rfl
theorem hcf27 (args : Array Value) (w : World) : (callFunc 27 args).run Tryd.prog w = .ok (.enter 27 args) w := by kernel_rfl

theorem find_e (e : Int) (b : Nat) (w : World) (ht : TabW w) (hb : w.cell? ⟨b, 0, none⟩ = some (.int .i64 e)) :
    Calls Tryd.prog 24 #[.func (.func 27) #[] #[.pointer (some ⟨b, 0, none⟩)]] w fun r w' => r = .returned (byE e).val ∧ Ext w w' :=
  find_any 27 #[.pointer (some ⟨b, 0, none⟩)] (fun r => r.e == e) (fun w => w.cell? ⟨b, 0, none⟩ = some (.int .i64 e)) (fun _ _ h k => k.cell h) (fun r w h => of1 r e b 0 w h) hcf27 w ht hb
theorem find_s (e : Int) (b : Nat) (w : World) (ht : TabW w) (hb : w.cell? ⟨b, 0, none⟩ = some (.int .u32 e)) :
    Calls Tryd.prog 24 #[.func (.func 25) #[] #[.pointer (some ⟨b, 0, none⟩)]] w fun r w' => r = .returned (byS e).val ∧ Ext w w' :=
  find_any 25 #[.pointer (some ⟨b, 0, none⟩)] (fun r => r.s == e) (fun w => w.cell? ⟨b, 0, none⟩ = some (.int .u32 e)) (fun _ _ h k => k.cell h) (fun r w h => fs1 r e b 0 w h) hcf25 w ht hb
theorem find_c (e : Int) (b : Nat) (w : World) (ht : TabW w) (hb : w.cell? ⟨b, 0, none⟩ = some (.int .i64 e)) :
    Calls Tryd.prog 24 #[.func (.func 26) #[] #[.pointer (some ⟨b, 0, none⟩)]] w fun r w' => r = .returned (byC e).val ∧ Ext w w' :=
  find_any 26 #[.pointer (some ⟨b, 0, none⟩)] (fun r => r.c == e) (fun w => w.cell? ⟨b, 0, none⟩ = some (.int .i64 e)) (fun _ _ h k => k.cell h) (fun r w h => fc1 r e b 0 w h) hcf26 w ht hb

theorem of_any (e : Int) (w : World) (ht : TabW w) : Calls Tryd.prog 22 #[.int .i64 e] w fun r w' => r = .returned (byE e).val ∧ Ext w w' := by
  have HT := Lib.hid ht
  clear ht
  go_enter Tryd.func22, Tryd.ntmps22
  go_wp2_with fail
  refine (find_e e _ _ (HT.out.ext (((Ext.refl w).alloc _).alloc _)) (by simp)).mono ?_
  rintro r w2 ⟨rfl, hx⟩
  have hz := hx.heap (heap_alloc2_new w _ _)
  obtain ⟨hn', d0, d1, d2, d3, g0, g1, g2, g3⟩ := blk4 hz
  have HX := Lib.hid hx
  have HZ := Lib.hid hz
  clear hx hz
  unfold Row.val
  go_wp2_with fail
  refine bodyPost_ret (v := (byE e).val) (results_cell_row rfl _ _ (w.heap.size + 1) 38 (byE e).cells.toArray (0, 0) _ rfl (set4_same HZ.out) Tryd.underlying38 rfl (by kernel_rfl)) rfl ⟨rfl, ?_⟩
  exact ((((Ext.refl w).alloc _).alloc _).trans HX.out).set4 (by omega) _ _ _ _

theorem fld0 (a b c d : Value) (w : World) : (Instr.field 38 (.agg #[a, b, c, d]) 0).run Tryd.prog w = .ok a w := by kernel_rfl
theorem fld1 (a b c d : Value) (w : World) : (Instr.field 38 (.agg #[a, b, c, d]) 1).run Tryd.prog w = .ok b w := by kernel_rfl
theorem fld2 (a b c d : Value) (w : World) : (Instr.field 38 (.agg #[a, b, c, d]) 2).run Tryd.prog w = .ok c w := by kernel_rfl
theorem fld3 (a b c d : Value) (w : World) : (Instr.field 38 (.agg #[a, b, c, d]) 3).run Tryd.prog w = .ok d w := by kernel_rfl
theorem fromStatus_any (e : Int) (w : World) (ht : TabW w) : Calls Tryd.prog 16 #[.int .u32 e] w fun r w' => r = .returned (.int .i64 (byS e).e) ∧ Ext w w' := by
  have HT := Lib.hid ht
  clear ht
  go_enter Tryd.func16, Tryd.ntmps16
  go_wp2_with fail
  refine (find_s e _ _ (HT.out.ext ((Ext.refl w).alloc _)) (by simp)).mono ?_
  rintro r w2 ⟨rfl, hx⟩
  unfold Row.val
  have f0 := fld0
  have f1 := fld1
  have f2 := fld2
  have f3 := fld3
  go_wp2_with fail
  go_ret
  exact ⟨rfl, ((Ext.refl w).alloc _).trans hx⟩
theorem fromCode_any (e : Int) (w : World) (ht : TabW w) : Calls Tryd.prog 18 #[.int .i64 e] w fun r w' => r = .returned (.int .i64 (byC e).e) ∧ Ext w w' := by
  have HT := Lib.hid ht
  clear ht
  go_enter Tryd.func18, Tryd.ntmps18
  go_wp2_with fail
  refine (find_c e _ _ (HT.out.ext ((Ext.refl w).alloc _)) (by simp)).mono ?_
  rintro r w2 ⟨rfl, hx⟩
  unfold Row.val
  have f0 := fld0
  have f1 := fld1
  have f2 := fld2
  have f3 := fld3
  go_wp2_with fail
  go_ret
  exact ⟨rfl, ((Ext.refl w).alloc _).trans hx⟩
theorem status_any (e : Int) (w : World) (ht : TabW w) : Calls Tryd.prog 9 #[.int .i64 e] w fun r w' => r = .returned (.int .u32 (byE e).s) ∧ Ext w w' := by
  have HT := Lib.hid ht
  clear ht
  go_enter Tryd.func9, Tryd.ntmps9
  go_wp2_with fail
  refine (of_any e _ HT.out).mono ?_
  rintro r w2 ⟨rfl, hx⟩
  unfold Row.val
  have f0 := fld0
  have f1 := fld1
  have f2 := fld2
  have f3 := fld3
  go_wp2_with fail
  go_ret
  exact ⟨rfl, hx⟩
theorem code_any (e : Int) (w : World) (ht : TabW w) : Calls Tryd.prog 11 #[.int .i64 e] w fun r w' => r = .returned (.int .i64 (byE e).c) ∧ Ext w w' := by
  have HT := Lib.hid ht
  clear ht
  go_enter Tryd.func11, Tryd.ntmps11
  go_wp2_with fail
  refine (of_any e _ HT.out).mono ?_
  rintro r w2 ⟨rfl, hx⟩
  unfold Row.val
  have f0 := fld0
  have f1 := fld1
  have f2 := fld2
  have f3 := fld3
  go_wp2_with fail
  go_ret
  exact ⟨rfl, hx⟩
theorem text_any (e : Int) (w : World) (ht : TabW w) : Calls Tryd.prog 13 #[.int .i64 e] w fun r w' => r = .returned (.string ⟨(byE e).t.toArray⟩) ∧ Ext w w' := by
  have HT := Lib.hid ht
  clear ht
  go_enter Tryd.func13, Tryd.ntmps13
  go_wp2_with fail
  refine (of_any e _ HT.out).mono ?_
  rintro r w2 ⟨rfl, hx⟩
  unfold Row.val
  have f0 := fld0
  have f1 := fld1
  have f2 := fld2
  have f3 := fld3
  go_wp2_with fail
  go_ret
  exact ⟨rfl, hx⟩
end Go.Proofs.YtfbdahhlhmdicaaDoor
