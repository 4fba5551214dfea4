/- The walk of the law RpcFaults. -/
import Derived.Test.YtcnbgcoklbmdaaaDoorFaH
import Derived.Test.YtcnbgcoklbmdaaaDoorRp3
import Derived.Test.YtcnbgcoklbmdaaaDoorByA
namespace Go.Proofs.YtcnbgcoklbmdaaaDoor
open Go.ChangeShapes Go.WideShapes Go.ChangeAt Go.RowKit

theorem werr_form (t : TypeId) (x : Value) (n : Nat) : ∃ T v, werr n (.iface t x) = .iface T v := by
  cases n with
  | zero => exact ⟨_, _, rfl⟩
  | succ n => exact ⟨_, _, rfl⟩
set_option maxRecDepth 100000 in
set_option maxHeartbeats 4000000 in
theorem rpcFaults_walk (w : World) (e : Int) (w0 : (Lit.int .i64 e).wf = true) (a : Int) (w1 : (Lit.int .i64 a).wf = true) (deep : Int) (w2 : (Lit.int .i64 deep).wf = true) (hg : ErrT w) (ht : Tab w) :
    Calls Tryd.prog 5 #[.int .i64 e, .int .i64 a, .int .i64 deep] w fun r w' => r = .returned (.bool true) ∧ Ext w w' := by
  have he : -9223372036854775808 ≤ e ∧ e ≤ 9223372036854775807 := by simpa [Lit.wf, IntKind.min, IntKind.max, IntKind.signed, IntKind.bits] using w0
  have hA : -9223372036854775808 ≤ a ∧ a ≤ 9223372036854775807 := by simpa [Lit.wf, IntKind.min, IntKind.max, IntKind.signed, IntKind.bits] using w1
  obtain ⟨d, hd5, hda⟩ := around_nat deep 5 (by omega) w2
  have HD := Lib.hid hda
  have hE1 : Ext w (w.alloc (.cells #[.int .i64 e, .int .i64 a] 49)) := (Ext.refl w).alloc _
  have hB := heap_alloc_new w (.cells #[.int .i64 e, .int .i64 a] 49)
  have HN := Lib.hid (fun W (hW : Ext (w.alloc (.cells #[.int .i64 e, .int .i64 a] 49)) W) => fault_both d w.heap.size e a W (hW.heap hB) (hg.ext (hE1.trans hW)))
  have HO := Lib.hid (fun W (hW : Ext (w.alloc (.cells #[.int .i64 e, .int .i64 a] 49)) W) => other_both d e W (hg.ext (hE1.trans hW)))
  have HEr := Lib.hid (fun W (hW : Ext (w.alloc (.cells #[.int .i64 e, .int .i64 a] 49)) W) => error_any w.heap.size e a W (hW.heap hB) he hA (ht.ext (hE1.trans hW)))
  have HDe := Lib.hid (fun W => decimal_any e he.1 he.2 W)
  have HDa := Lib.hid (fun W => decimal_any a hA.1 hA.2 W)
  have hs1 := numS_size e he.1 he.2
  have hs2 := numS_size a hA.1 hA.2
  have HF := Lib.hid (show faultS e a = (⟨#[102, 97, 117, 108, 116, 32]⟩ : ByteArray) ++ numS e ++ ⟨#[32]⟩ ++ numS a from rfl)
  rw [HF.out] at HEr
  have z1 : ((⟨#[102, 97, 117, 108, 116, 32]⟩ : ByteArray) ++ numS e).size ≤ 30 := by rw [ByteArray.size_append]; have : (⟨#[102, 97, 117, 108, 116, 32]⟩ : ByteArray).size = 6 := rfl; omega
  have z2 : ((⟨#[102, 97, 117, 108, 116, 32]⟩ : ByteArray) ++ numS e ++ ⟨#[32]⟩).size ≤ 40 := by rw [ByteArray.size_append]; have : (⟨#[32]⟩ : ByteArray).size = 1 := rfl; omega
  have a1 := run_cat Tryd.prog ⟨#[102, 97, 117, 108, 116, 32]⟩ (numS e) (by have : (⟨#[102, 97, 117, 108, 116, 32]⟩ : ByteArray).size = 6 := rfl; omega)
  have a2 := run_cat Tryd.prog (⟨#[102, 97, 117, 108, 116, 32]⟩ ++ numS e) ⟨#[32]⟩ (by have : (⟨#[32]⟩ : ByteArray).size = 1 := rfl; omega)
  have a3 := run_cat Tryd.prog (⟨#[102, 97, 117, 108, 116, 32]⟩ ++ numS e ++ ⟨#[32]⟩) (numS a) (by omega)
  generalize numS e = se at *
  generalize numS a = sa at *
  clear w0 w1 w2 hda hg ht hB hE1 he hA HF
  go_enter Tryd.func5, Tryd.ntmps5
  go_wp2_with fail
  refine (HD.out _).mono ?_
  rintro r wb ⟨rfl, rfl⟩
  go_wp2_with fail
  go_loop [8, 9, 10] (fun v8 v9 v10 => ∃ j n : Nat, j + n = d ∧ v10 = .int .i64 j ∧ v8 = werr n (.iface 47 (.pointer (some ⟨w.heap.size, 0, none⟩))) ∧ v9 = werr n (.iface 37 (.int .i64 e))) (fun _ _ v10 => (intOf v10).toNat)
  case atStart => exact ⟨d, 0, by omega, rfl, rfl, rfl⟩
  case round =>
    obtain ⟨j, n, hjn, rfl, rfl, rfl⟩ := hrel
    cases j with
    | zero =>
      obtain rfl : n = d := by omega
      generalize hu : werr n (.iface 47 (.pointer (some ⟨w.heap.size, 0, none⟩))) = u at *
      generalize hv : werr n (.iface 37 (.int .i64 e)) = v at *
      have HU := Lib.hid hu
      have HV := Lib.hid hv
      clear hu hv
      go_wp2_with fail
      refine (HDe.out _).mono ?_
      rintro r w2 ⟨rfl, hx2⟩
      have X2 := Lib.hid hx2
      clear hx2
      go_wp2_with fail
      refine (HDa.out _).mono ?_
      rintro r w3 ⟨rfl, hx3⟩
      have X3 := Lib.hid (X2.out.trans hx3)
      clear hx3
      go_wp2_with fail
      refine ((HN.out _ X3.out).1).mono ?_
      rintro r w4 ⟨rfl, hx4⟩
      have X4 := Lib.hid (X3.out.trans hx4)
      clear hx4
      go_wp2_with fail
      refine ((HN.out _ X4.out).2).mono ?_
      rintro r w5 ⟨rfl, hx5⟩
      have X5 := Lib.hid (X4.out.trans hx5)
      clear hx5
      go_wp2_with fail
      refine (HEr.out _ X5.out).mono ?_
      rintro r w6 ⟨rfl, hx6⟩
      have X6 := Lib.hid (X5.out.trans hx6)
      clear hx6
      go_wp2_with fail
      refine ((HO.out _ X6.out).1).mono ?_
      rintro r w7 ⟨rfl, hx7⟩
      have X7 := Lib.hid (X6.out.trans hx7)
      clear hx7
      go_wp2_with fail
      refine ((HO.out _ X7.out).2).mono ?_
      rintro r w8 ⟨rfl, hx8⟩
      have X8 := Lib.hid (X7.out.trans hx8)
      clear hx8
      go_wp2_with fail
      refine (numberN _).mono ?_
      rintro r w9 ⟨rfl, hx9⟩
      have X9 := Lib.hid (X8.out.trans hx9)
      clear hx9
      go_wp2_with fail
      refine (placeN _).mono ?_
      rintro r w10 ⟨rfl, hx10⟩
      have X10 := Lib.hid (X9.out.trans hx10)
      clear hx10
      go_wp2_with fail
      refine (lives_any _).mono ?_
      rintro r w11 ⟨rfl, hx11⟩
      have X11 := Lib.hid (((Ext.refl w).alloc _).trans (X10.out.trans hx11))
      clear hx11
      go_wp2_with fail
      go_ret
      exact ⟨rfl, X11.out⟩
    | succ j =>
      obtain ⟨J, hJ⟩ : ∃ J : Int, J = ((j + 1 : Nat) : Int) := ⟨_, rfl⟩
      rw [← hJ]
      have HJ := Lib.hid hJ
      have hJ0 : 0 < J := by omega
      have hJ1 : J ≤ 5 := by omega
      have hdp : decide (0 < J) = true := by simpa using hJ0
      clear hJ
      obtain ⟨T1, v1, hu⟩ := werr_form 47 (.pointer (some ⟨w.heap.size, 0, none⟩)) n
      obtain ⟨T2, v2, hv⟩ := werr_form 37 (.int .i64 e) n
      rw [hu, hv]
      have HU := Lib.hid hu
      have HV := Lib.hid hv
      clear hu hv
      go_wp2_with fail
      go_round
      case rel => exact ⟨j, n + 1, by omega, by rw [HJ.out]; go_num, by rw [← HU.out]; rfl, by rw [← HV.out]; rfl⟩
      case measure => have := HJ.out; simp [intOf]; omega
end Go.Proofs.YtcnbgcoklbmdaaaDoor
