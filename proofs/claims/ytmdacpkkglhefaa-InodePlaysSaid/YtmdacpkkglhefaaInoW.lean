/- The walks of the table's Each and of 'like'. -/
import Derived.Test.YtmdacpkkglhefaaInoV
namespace Go.Proofs.Ytmdacpkkglhefaa.inoI
open Go.ChangeShapes Go.WideShapes Go.ChangeAt Go.RowKit
open Go.Proofs.Ytmdacpkkglhefaa

theorem ext_drew (w : World) : Ext w w.drew := (Ext.refl w).drew
theorem far3 {w : World} {pb tb pl bs ba bl base c : Nat} {ps : List Pl} {vE : Value} {E : List Rec} (h : TabW w pb tb pl ps) (hC : CapW w bs ba bl base c vE E) : pb ∉ [bs, ba] ∧ tb ∉ [bs, ba] ∧ pl ∉ [bs, ba] := by
  refine ⟨?_, ?_, ?_⟩
  · intro hm
    simp at hm
    rcases hm with rfl | rfl
    · have := h.ptr.symm.trans hC.same; simp at this
    · have := h.ptr.symm.trans hC.at_; simp at this
  · intro hm
    simp at hm
    rcases hm with rfl | rfl
    · have := h.var.symm.trans hC.same; simp at this
    · have := h.var.symm.trans hC.at_; simp at this
  · intro hm
    simp at hm
    rcases hm with rfl | rfl
    · have := h.pls.symm.trans hC.same; simp at this
    · have := h.pls.symm.trans hC.at_; simp at this
theorem keep3 {w w' : World} {p q r : Addr} {a b c : Value} (h : w.cell? p = some a ∧ w.cell? q = some b ∧ w.cell? r = some c) (hx : Ext w w') : w'.cell? p = some a ∧ w'.cell? q = some b ∧ w'.cell? r = some c := ⟨hx.cell h.1, hx.cell h.2.1, hx.cell h.2.2⟩
theorem keep3u {S : List Nat} {w w' : World} {p q r : Addr} {a b c : Value} (h : w.cell? p = some a ∧ w.cell? q = some b ∧ w.cell? r = some c) (hx : Upd S w w') (h1 : p.block ∉ S) (h2 : q.block ∉ S) (h3 : r.block ∉ S) : w'.cell? p = some a ∧ w'.cell? q = some b ∧ w'.cell? r = some c := ⟨hx.cell h.1 h1, hx.cell h.2.1 h2, hx.cell h.2.2 h3⟩

set_option maxRecDepth 100000 in
set_option maxHeartbeats 4000000 in
theorem each_any (pb tb pl : Nat) (ps : List Pl) (w : World) (h : TabW w pb tb pl ps) (bs ba bl base : Nat) (vE : Value) (hC : CapW w bs ba bl base 0 vE (eachP ps 0)) :
    Calls Try.prog 31 #[.pointer (some ⟨pb, 0, none⟩), .func (.func 32) #[] #[.pointer (some ⟨bs, 0, none⟩), .pointer (some ⟨ba, 0, none⟩), .pointer (some ⟨bl, 0, none⟩)]] w fun r w' => r = .returned (.tuple #[]) ∧ CapW w' bs ba bl base (count ps) vE (eachP ps 0) ∧ Upd [bs, ba] w w' := by
  have hl := h.len
  obtain ⟨F1, F2, F3⟩ := far3 h hC
  obtain ⟨d0, d1, _, _⟩ := blk2 h.ptr
  have hpb := lt_of_heap h.ptr
  have H := Lib.hid h
  have HC := Lib.hid hC
  have hEl : (eachP ps 0).length ≤ 20000 := by rw [eachP_len]; have := count_le ps; omega
  have HEl := Lib.hid hEl
  clear h hC hEl
  go_enter Try.func31, Try.ntmps31
  go_wp2_with fail
  go_loopw [10] (fun v10 wr => ∃ i : Nat, i ≤ ps.length ∧ v10 = .int .i64 i ∧ CapW wr bs ba bl base (count (ps.take i)) vE (eachP ps 0) ∧ Upd [bs, ba] w wr) (fun v10 _ => ps.length - (intOf v10).toNat)
  case atStart => exact ⟨0, by omega, rfl, by simpa [count] using HC.out, Upd.refl _ _⟩
  case round =>
    obtain ⟨i, hi, rfl, hCw, hU⟩ := hrel
    by_cases hin : i < ps.length
    · have hT := H.out.upd hU F1 F2 F3
      obtain ⟨c0, c1, c2, f0, f1, f2⟩ := hT.cell hin
      obtain ⟨d0', d1', _, _⟩ := blk2 hT.ptr
      have hpb' := lt_of_heap hT.ptr
      have hpl' := lt_of_heap hT.pls
      have hd : decide (i < ps.length) = true := by simp; omega
      have hi0 : (0 : Int) ≤ (i : Int) := by omega
      have hi1 : (i : Int) < (ps.length : Int) := by omega
      have HTk := Lib.hid (count_take ps i hin)
      have HCw := Lib.hid hCw
      have HU := Lib.hid hU
      have HT := Lib.hid hT
      cases his : ps[i].is
      · rw [his] at c0 HTk
        clear hCw hU hT c1 c2 f0 f1 f2 d0 d1
        go_wp2_with fail
        go_roundw
        case rel => exact ⟨i + 1, by omega, by go_num, by rw [HTk.out]; simpa using HCw.out, HU.out⟩
        case measure => simp [intOf]; omega
      · rw [his] at c0 HTk
        obtain ⟨hcE, hE⟩ := eachP_at ps i hin his
        have HCL := Lib.hid (fun W (hW : Ext wr W) => closure_any pb tb pl ps i hin W (hT.ext hW))
        have HLK := Lib.hid (fun W (hW : Ext wr W) => like1_any W bs ba bl base (count (ps.take i)) vE (eachP ps 0) (hCw.ext hW) HEl.out hcE (i + 1) ps[i].gen ps[i].x hE)
        clear hCw hU hT c1 f0 f1 f2 d0 d1 hcE hE his
        generalize ps[i].gen = gn at *
        generalize ps[i].x = xx at *
        go_wp2_with fail
        go_region_held3 (fun w' => w'.cell? ⟨pb, 0, none⟩ = some (.slice (some ⟨pl, 0, none⟩) ps.length ps.length) ∧ w'.cell? ⟨pb, 1, none⟩ = some (.func (.func 27) #[] #[.pointer (some ⟨tb, 0, none⟩)]) ∧ w'.cell? ⟨pl, i * 3 + 2, none⟩ = some (.int .i64 xx)) (first | exact ⟨d0', d1', c2⟩ | exact keep3 (by assumption) hx1 | exact keep3u (by assumption) hu2 F1 F1 F3 | assumption) (first | (go_at_call 27; refine (HCL.out _ (ext_drew wr)).mono ?_; rintro e w1 ⟨rfl, hx1⟩) | (go_at_call 32; refine (HLK.out _ ((ext_drew wr).trans hx1)).mono ?_; rintro e w2 ⟨rfl, hC2, hu2⟩))
        have HN := Lib.hid hC2
        have HU2 := Lib.hid (HU.out.trans ((((ext_drew wr).trans hx1).upd _).trans hu2))
        clear hC2 hu2 hx1
        go_wp2_with fail
        go_roundw
        case rel => exact ⟨i + 1, by omega, by go_num, by rw [HTk.out]; simpa using HN.out, HU2.out⟩
        case measure => simp [intOf]; omega
    · have hd : decide (i < ps.length) = false := by simp; omega
      have HCw := Lib.hid hCw
      have HU := Lib.hid hU
      clear hCw hU
      go_wp2_with fail
      go_end0
      exact ⟨rfl, by have := HCw.out; rw [List.take_of_length_le (by omega)] at this; exact this, HU.out⟩

set_option maxRecDepth 100000 in
set_option maxHeartbeats 4000000 in
theorem like_any (pb tb pl : Nat) (ps : List Pl) (w : World) (h : TabW w pb tb pl ps) (n : Nat) (hn : n ≤ 64) (base : Nat) (v : Value) (L : List Rec) (hr : RecRow w base v L) (hl : L.length ≤ 100) (hI : Inv n L ps) :
    Calls Try.prog 21 #[.pointer (some ⟨pb, 0, none⟩), .agg #[.int .i64 n, v]] w fun r w' => r = .returned (.bool true) ∧ Ext w w' := by
  have HE := Lib.hid (fun W (hW : Ext w W) => refEach W base n (by omega) v L (hr.ext hW) hl)
  have H := Lib.hid h
  have HEa := Lib.hid hI.each_all
  have hcnt := count_le ps
  have hlen := h.len
  obtain ⟨a, cap, rfl, -⟩ := hr.form
  clear h hr hI
  generalize L.length = l at *
  go_enter Try.func21, Try.ntmps21
  go_wp2_with fail
  refine (HE.out _ ((Ext.refl w).alloc _)).mono ?_
  rintro r w1 ⟨v1, rfl, hr1, hx1⟩
  rw [HEa.out] at hr1
  have hE1 : Ext w w1 := ((Ext.refl w).alloc _).trans hx1
  have h3 := alloc3' w1 (.cells #[v1] 49) (.cells #[.int .i64 0] 3) (.cells #[.bool true] 4)
  have hE3 : Ext w1 (((w1.alloc (.cells #[v1] 49)).alloc (.cells #[.int .i64 0] 3)).alloc (.cells #[.bool true] 4)) := (((Ext.refl w1).alloc _).alloc _).alloc _
  have HX3 := Lib.hid (hE1.trans hE3)
  have HC := Lib.hid (show CapW (((w1.alloc (.cells #[v1] 49)).alloc (.cells #[.int .i64 0] 3)).alloc (.cells #[.bool true] 4)) (w1.heap.size + 1 + 1) (w1.heap.size + 1) w1.heap.size (w.heap.size + 1) 0 v1 (eachP ps 0) from
    ⟨h3.2.2, h3.2.1, h3.1, by have := hr1.ext hE3; simpa using this⟩)
  have hEl := eachP_len ps 0
  obtain ⟨a1, c1, rfl, -⟩ := hr1.form
  rw [hEl] at HC HX3 ⊢
  have hzw := hE1.size
  clear hr1 hx1 hE1 h3 hE3 hEl HE HEa
  go_wp2_with fail
  refine (each_any pb tb pl ps _ (H.out.ext HX3.out) _ _ _ _ _ HC.out).mono ?_
  rintro r w4 ⟨rfl, hC4, hu4⟩
  obtain ⟨x0, -⟩ := one_of hC4.same
  obtain ⟨y0, -⟩ := one_of hC4.at_
  obtain ⟨z0, -⟩ := one_of hC4.lst
  have l1 := lt_of_heap hC4.same
  have l2 := lt_of_heap hC4.at_
  have l3 := lt_of_heap hC4.lst
  have HX4 := Lib.hid (hu4.ext HX3.out (by simp; omega))
  have HT4 := Lib.hid ((H.out.ext HX3.out).upd hu4 (far3 (H.out.ext HX3.out) HC.out).1 (far3 (H.out.ext HX3.out) HC.out).2.1 (far3 (H.out.ext HX3.out) HC.out).2.2)
  have HLn := Lib.hid (show ∀ m, Calls Try.prog 17 #[.pointer (some ⟨pb, 0, none⟩)] (w4.drewN m) fun e w' => e = .returned (.int .i64 (count ps)) ∧ w' = w4.drewN m from fun m => (len_any pb tb pl ps _ (HT4.out.ext ((Ext.refl _).drewN m))).mono fun _ _ q => ⟨q.1, q.2.symm⟩)
  clear hC4 hu4 HC HX3 H
  generalize count ps = k at *
  go_wp2_with fail
  go_quiet ((go_at_call 17; exact Calls.quiet_of_same (HLn.out _)))
  go_wp2_with fail
  go_ret
  exact ⟨rfl, HX4.out.drewN _⟩
end Go.Proofs.Ytmdacpkkglhefaa.inoI
