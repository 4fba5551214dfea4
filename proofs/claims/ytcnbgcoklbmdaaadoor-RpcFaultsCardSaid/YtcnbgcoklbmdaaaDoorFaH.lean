/- The walks of a fault's Error, and of Number and Place at wrapped errors. -/
import Derived.Test.YtcnbgcoklbmdaaaDoorFaG
import Derived.Test.YtcnbgcoklbmdaaaDoorFaD
namespace Go.Proofs.YtcnbgcoklbmdaaaDoor
open Go.ChangeShapes Go.WideShapes Go.ChangeAt Go.RowKit

/-- A fault's text. -/
def faultS (e a : Int) : ByteArray := (⟨#[102, 97, 117, 108, 116, 32]⟩ : ByteArray) ++ numS e ++ ⟨#[32]⟩ ++ numS a
theorem run_cat (P : Program) (a b : ByteArray) (h : a.size + b.size ≤ 1000) (W : World) : (Op.stringOp .add a b).run P W = .ok (.string (a ++ b)) W := by
  unfold Op.stringOp
  have : ¬ ((a.size + b.size : Nat) : Int) > IntKind.i64.max := by
    have : IntKind.i64.max = 9223372036854775807 := by decide
    rw [this]; omega
  simp only [if_neg this]
  rfl
theorem keepT {o w w' : World} {p q : Addr} {a b : Value} (h : w.cell? p = some a ∧ w.cell? q = some b ∧ Ext o w) (hx : Ext w w') : w'.cell? p = some a ∧ w'.cell? q = some b ∧ Ext o w' := ⟨hx.cell h.1, hx.cell h.2.1, h.2.2.trans hx⟩
set_option maxRecDepth 100000 in
set_option maxHeartbeats 1000000 in
theorem error_any (g : Nat) (e a : Int) (w : World) (h : w.heap[g]? = some (.cells #[.int .i64 e, .int .i64 a] 49 (0, 0))) (he : -9223372036854775808 ≤ e ∧ e ≤ 9223372036854775807) (ha : -9223372036854775808 ≤ a ∧ a ≤ 9223372036854775807) (ht : Tab w) :
    Calls Tryd.prog 17 #[.pointer (some ⟨g, 0, none⟩)] w fun r w' => r = .returned (.string (faultS e a)) ∧ Ext w w' := by
  have hg := lt_of_heap h
  obtain ⟨c0, c1, _, _⟩ := blk2 h
  have HIe := Lib.hid (fun W (hW : Ext w W) => itoa_any e he.1 he.2 W (ht.ext hW))
  have HIa := Lib.hid (fun W (hW : Ext w W) => itoa_any a ha.1 ha.2 W (ht.ext hW))
  have hs1 := numS_size e he.1 he.2
  have hs2 := numS_size a ha.1 ha.2
  rw [show (⟨(Lib.itoa e).toArray⟩ : ByteArray) = numS e from rfl] at HIe
  rw [show (⟨(Lib.itoa a).toArray⟩ : ByteArray) = numS a from rfl] at HIa
  have HF := Lib.hid (show faultS e a = (⟨#[102, 97, 117, 108, 116, 32]⟩ : ByteArray) ++ numS e ++ ⟨#[32]⟩ ++ numS a from rfl)
  rw [HF.out]
  generalize numS e = se at *
  generalize numS a = sa at *
  have z1 : ((⟨#[102, 97, 117, 108, 116, 32]⟩ : ByteArray) ++ se).size ≤ 30 := by rw [ByteArray.size_append]; have : (⟨#[102, 97, 117, 108, 116, 32]⟩ : ByteArray).size = 6 := rfl; omega
  have z2 : ((⟨#[102, 97, 117, 108, 116, 32]⟩ : ByteArray) ++ se ++ ⟨#[32]⟩).size ≤ 40 := by rw [ByteArray.size_append]; have : (⟨#[32]⟩ : ByteArray).size = 1 := rfl; omega
  have a1 := run_cat Tryd.prog ⟨#[102, 97, 117, 108, 116, 32]⟩ se (by have : (⟨#[102, 97, 117, 108, 116, 32]⟩ : ByteArray).size = 6 := rfl; omega)
  have a2 := run_cat Tryd.prog (⟨#[102, 97, 117, 108, 116, 32]⟩ ++ se) ⟨#[32]⟩ (by have : (⟨#[32]⟩ : ByteArray).size = 1 := rfl; omega)
  have a3 := run_cat Tryd.prog (⟨#[102, 97, 117, 108, 116, 32]⟩ ++ se ++ ⟨#[32]⟩) sa (by omega)
  clear h ht he ha
  go_enter Tryd.func17, Tryd.ntmps17
  go_wp2_with fail
  go_region_held3 (fun w' => w'.cell? ⟨g, 0, none⟩ = some (.int .i64 e) ∧ w'.cell? ⟨g, 1, none⟩ = some (.int .i64 a) ∧ Ext w w') (first | exact ⟨c0, c1, (Ext.refl w).drew⟩ | exact keepT (by assumption) hx2 | exact keepT (by assumption) hx1 | assumption) (first | (go_at_call 25; refine (HIe.out _ (And.right (And.right (by assumption)))).mono ?_; rintro r w1 ⟨rfl, hx1⟩) | (go_at_call 25; refine (HIa.out _ (And.right (And.right (by assumption)))).mono ?_; rintro r w2 ⟨rfl, hx2⟩))
  have HX := Lib.hid (show Ext w w2 from And.right (And.right (by assumption)))
  clear hx1 hx2
  go_wp2_with fail
  go_ret
  exact ⟨rfl, HX.out⟩

theorem findF (g : Nat) (w : World) : Calls Tryd.prog 23 #[.iface 47 (.pointer (some ⟨g, 0, none⟩))] w fun r w' => r = .returned (.pointer (some ⟨g, 0, none⟩)) ∧ Ext w w' := by
  have hta : ∀ W, (Instr.typeAssert (.iface 47 (.pointer (some ⟨g, 0, none⟩))) 34 47 true).run Tryd.prog W = .ok (.tuple #[.pointer (some ⟨g, 0, none⟩), .bool true]) W := fun _ => by kernel_rfl
  go_enter Tryd.func23, Tryd.ntmps23
  go_wp2_with fail
  go_ret
  exact ⟨rfl, Ext.refl w⟩
theorem findN (w : World) : Calls Tryd.prog 23 #[.nilIface] w fun r w' => r = .returned (.pointer none) ∧ Ext w w' := by
  go_enter Tryd.func23, Tryd.ntmps23
  go_wp2_with fail
  go_ret
  exact ⟨rfl, Ext.refl w⟩
theorem numberN (w : World) : Calls Tryd.prog 13 #[.nilIface] w fun r w' => r = .returned (.int .i64 0) ∧ Ext w w' := by
  go_enter Tryd.func13, Tryd.ntmps13
  go_wp2_with fail
  go_ret
  exact ⟨rfl, Ext.refl w⟩
theorem placeN (w : World) : Calls Tryd.prog 14 #[.nilIface] w fun r w' => r = .returned (.int .i64 (-1)) ∧ Ext w w' := by
  go_enter Tryd.func14, Tryd.ntmps14
  go_wp2_with fail
  refine (findN w).mono ?_
  rintro r w' ⟨rfl, hx⟩
  have HX := Lib.hid hx
  clear hx
  go_wp2_with fail
  go_ret
  exact ⟨rfl, HX.out⟩
/-- Number and Place by what find tells. -/
theorem number_by (T : TypeId) (v : Value) (g : Nat) (e a : Int) (w : World) (h : w.heap[g]? = some (.cells #[.int .i64 e, .int .i64 a] 49 (0, 0)))
    (hf : Calls Tryd.prog 23 #[.iface T v] w fun r w' => r = .returned (.pointer (some ⟨g, 0, none⟩)) ∧ Ext w w') :
    Calls Tryd.prog 13 #[.iface T v] w fun r w' => r = .returned (.int .i64 e) ∧ Ext w w' := by
  have HF := Lib.hid hf
  have H := Lib.hid h
  clear hf h
  go_enter Tryd.func13, Tryd.ntmps13
  go_wp2_with fail
  refine HF.out.mono ?_
  rintro r w' ⟨rfl, hx⟩
  have HX := Lib.hid hx
  have hg := lt_of_heap (hx.heap H.out)
  obtain ⟨c0, c1, _, _⟩ := blk2 (hx.heap H.out)
  clear hx
  go_wp2_with fail
  go_ret
  exact ⟨rfl, HX.out⟩
theorem place_by (T : TypeId) (v : Value) (g : Nat) (e a : Int) (w : World) (h : w.heap[g]? = some (.cells #[.int .i64 e, .int .i64 a] 49 (0, 0)))
    (hf : Calls Tryd.prog 23 #[.iface T v] w fun r w' => r = .returned (.pointer (some ⟨g, 0, none⟩)) ∧ Ext w w') :
    Calls Tryd.prog 14 #[.iface T v] w fun r w' => r = .returned (.int .i64 a) ∧ Ext w w' := by
  have HF := Lib.hid hf
  have H := Lib.hid h
  clear hf h
  go_enter Tryd.func14, Tryd.ntmps14
  go_wp2_with fail
  refine HF.out.mono ?_
  rintro r w' ⟨rfl, hx⟩
  have HX := Lib.hid hx
  have hg := lt_of_heap (hx.heap H.out)
  obtain ⟨c0, c1, _, _⟩ := blk2 (hx.heap H.out)
  clear hx
  go_wp2_with fail
  go_ret
  exact ⟨rfl, HX.out⟩
theorem number_no (T : TypeId) (v : Value) (w : World) (hf : Calls Tryd.prog 23 #[.iface T v] w fun r w' => r = .returned (.pointer none) ∧ Ext w w') :
    Calls Tryd.prog 13 #[.iface T v] w fun r w' => r = .returned (.int .i64 1) ∧ Ext w w' := by
  have HF := Lib.hid hf
  clear hf
  go_enter Tryd.func13, Tryd.ntmps13
  go_wp2_with fail
  refine HF.out.mono ?_
  rintro r w' ⟨rfl, hx⟩
  have HX := Lib.hid hx
  clear hx
  go_wp2_with fail
  go_ret
  exact ⟨rfl, HX.out⟩
theorem place_no (T : TypeId) (v : Value) (w : World) (hf : Calls Tryd.prog 23 #[.iface T v] w fun r w' => r = .returned (.pointer none) ∧ Ext w w') :
    Calls Tryd.prog 14 #[.iface T v] w fun r w' => r = .returned (.int .i64 (-1)) ∧ Ext w w' := by
  have HF := Lib.hid hf
  clear hf
  go_enter Tryd.func14, Tryd.ntmps14
  go_wp2_with fail
  refine HF.out.mono ?_
  rintro r w' ⟨rfl, hx⟩
  have HX := Lib.hid hx
  clear hx
  go_wp2_with fail
  go_ret
  exact ⟨rfl, HX.out⟩
theorem fault_both (k g : Nat) (e a : Int) (w : World) (h : w.heap[g]? = some (.cells #[.int .i64 e, .int .i64 a] 49 (0, 0))) (hg : ErrT w) :
    (Calls Tryd.prog 13 #[werr k (.iface 47 (.pointer (some ⟨g, 0, none⟩)))] w fun r w' => r = .returned (.int .i64 e) ∧ Ext w w') ∧
    (Calls Tryd.prog 14 #[werr k (.iface 47 (.pointer (some ⟨g, 0, none⟩)))] w fun r w' => r = .returned (.int .i64 a) ∧ Ext w w') := by
  cases k with
  | zero => exact ⟨number_by _ _ g e a w h (findF g w), place_by _ _ g e a w h (findF g w)⟩
  | succ n => exact ⟨number_by _ _ g e a w h (findW n _ w hg), place_by _ _ g e a w h (findW n _ w hg)⟩
theorem other_both (k : Nat) (e : Int) (w : World) (hg : ErrT w) :
    (Calls Tryd.prog 13 #[werr k (.iface 37 (.int .i64 e))] w fun r w' => r = .returned (.int .i64 1) ∧ Ext w w') ∧
    (Calls Tryd.prog 14 #[werr k (.iface 37 (.int .i64 e))] w fun r w' => r = .returned (.int .i64 (-1)) ∧ Ext w w') := by
  have h := findO k e w hg
  cases k with
  | zero => exact ⟨number_no _ _ w h, place_no _ _ w h⟩
  | succ n => exact ⟨number_no _ _ w h, place_no _ _ w h⟩
end Go.Proofs.YtcnbgcoklbmdaaaDoor
