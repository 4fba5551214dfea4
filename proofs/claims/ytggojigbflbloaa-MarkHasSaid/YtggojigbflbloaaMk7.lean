/- The walk of the law MarkMarks. -/
import Derived.Test.YtggojigbflbloaaMk6
namespace Go.Proofs.Ytggojigbflbloaa
open Go.ChangeShapes Go.WideShapes Go.ChangeAt Go.RowKit

theorem drew_ext (w : World) : Ext w w.drew := (Ext.refl w).drew
def two (a b : Int) (i : Nat) : Int := if i = 0 then a else b
theorem two_bd {a b : Int} {i : Nat} (ha : a ≤ 9223372036854775807) (hb : b ≤ 9223372036854775807) : two a b i ≤ 9223372036854775807 := by unfold two; split <;> assumption
theorem IsRow.of_trod2 {H : Type} {enc : TypeId × Value → H} {P : Program} {W : World} {t e : TypeId} {k : IntKind} {a : Option Addr} {len cap : Nat} {d : DataW H} {p : List MemPlace}
    (ht : P.underlying t = some (.slice e)) (he : P.underlying e = some (.int k)) (hc : P.cellsOf e = 1)
    (h : DataW.Trod enc P W 0 (fun _ => true) true t (.slice a len cap) d p) : ∃ zs, IsRow k W a len cap zs ∧ (a = none → cap = 0) := by
  obtain ⟨zs, hz⟩ := IsRow.of_trod ht he hc h
  refine ⟨zs, hz, fun e => ?_⟩
  obtain ⟨fuel, hf⟩ := h
  rcases open_ints ht he hc hf with ⟨hcs, _⟩ | ⟨x, l, c, zs, hcs, _⟩
  · simp [Value.cells] at hcs
    exact hcs.2.2
  · simp [Value.cells] at hcs
    rw [e] at hcs
    cases hcs.1

set_option maxRecDepth 100000 in
set_option maxHeartbeats 2000000 in
theorem markMarks_walk (w : World) (a : Option Addr) (n cap : Nat) (zs : List Int) (h : IsRow .u8 w a n cap zs) (ha : a = none → cap = 0) (size : Int) (w1 : (Lit.int .i64 size).wf = true) :
    Calls Try.prog 4 #[.slice a n cap, .int .i64 size] w fun r w' => r = .returned (.bool true) ∧ Ext w w' := by
  have hsz := wf_i64 w1
  have hb := arnd_bd size 41 (by omega)
  have hz : ∀ z ∈ zs.take 100, (Lit.int .u8 z).wf = true := fun z hz => h.2.2.2.1 z (List.mem_of_mem_take hz)
  obtain ⟨ys, hys⟩ : ∃ ys, zs.take 100 = ys := ⟨_, rfl⟩
  have HY := Lib.hid hys
  rw [hys] at hz
  clear hys
  have HZ := Lib.hid hz
  have H := Lib.hid h
  have HAn := Lib.hid ha
  have HAr := Lib.hid (around_any size 41 · (by omega) hsz.1 hsz.2)
  clear hz h ha
  go_enter Try.func4, Try.ntmps4
  go_wp2_with fail
  refine (few_any a n cap zs 100 (by omega) w H.out HAn.out).mono ?_
  rintro r wf ⟨v, rfl, hO, hX⟩
  rw [HY.out] at hO
  obtain ⟨oa, oc, rfl, hR, hP⟩ := hO.row2 HZ.out
  have HO := Lib.hid hO
  have HX := Lib.hid hX
  have HR := Lib.hid hR
  have HP := Lib.hid hP
  clear hO hX hR hP
  generalize arnd size 41 = sm at *
  go_wp2_with fail
  refine (HAr.out _).mono ?_
  rintro r wb ⟨rfl, rfl⟩
  go_wp2_with fail
  have HC := Lib.hid (show ∀ i, i < 2 → (wf.alloc (.cells #[.int .i64 size, .int .i64 sm] 3)).cell? ⟨wf.heap.size, i, none⟩ = some (.int .i64 (two size sm i)) from fun i hi => by
    match i, hi with
    | 0, _ => (simp only [World.cell?, heap_alloc_new]; rfl)
    | 1, _ => (simp only [World.cell?, heap_alloc_new]; rfl))
  have HT := Lib.hid (fun i => two_bd (i := i) hsz.2 (show sm ≤ 9223372036854775807 by omega))
  go_loopw [7] (fun v7 wr => ∃ i : Nat, i ≤ 2 ∧ v7 = .int .i64 i ∧ Ext (wf.alloc (.cells #[.int .i64 size, .int .i64 sm] 3)) wr) (fun v7 _ => 2 - (intOf v7).toNat)
  case atStart => exact ⟨0, by omega, rfl, Ext.refl _⟩
  case round =>
    obtain ⟨i, hi, rfl, hXr⟩ := hrel
    have HXr := Lib.hid hXr
    have HXf := Lib.hid (((Ext.refl wf).alloc (.cells #[.int .i64 size, .int .i64 sm] 3)).trans hXr)
    clear hXr
    by_cases hlt : i < 2
    · have hd : decide ((i : Int) < 2) = true := by simp; omega
      have hi0 : (0 : Int) ≤ (i : Int) := by omega
      have hi1 : (i : Int) < 2 := by omega
      have q0 := HXr.out.cell (HC.out i hlt)
      have hg : wf.heap.size < wr.heap.size := by have := HXr.out.size; simp at this; omega
      have ht := HT.out i
      have HM := Lib.hid (mark_any oa _ oc ys (two size sm i) wr (HR.out.ext HXf.out) HP.out ht)
      have HMr := Lib.hid (fun W (hW : Ext wr W) => refMark_any oa _ oc ys (two size sm i) W (HR.out.ext (HXf.out.trans hW)) HP.out ht)
      generalize two size sm i = si at *
      generalize ans ys si = an at *
      obtain ⟨ab, ae⟩ := an
      go_wp2_with fail
      refine HM.out.mono ?_
      rintro r w2 ⟨v2, rfl, hO2, hX2⟩
      have q2 := hX2.cell q0
      have hg2 : wf.heap.size < w2.heap.size := by have := hX2.size; omega
      have HO2 := Lib.hid hO2
      have HX2 := Lib.hid hX2
      clear hO2 hX2
      go_wp2_with fail
      refine (HMr.out _ HX2.out).mono ?_
      rintro r w3 ⟨v3, rfl, hO3, hX3⟩
      have s2 := (HO2.out.ext hX3).str
      have s3 := hO3.str
      have HX3 := Lib.hid (HXr.out.trans (HX2.out.trans hX3))
      clear hO3 hX3
      go_wp2_with fail
      go_roundw
      case rel => exact ⟨i + 1, by omega, by go_num, HX3.out⟩
      case measure => simp [intOf]; omega
    · have hd : decide ((i : Int) < 2) = false := by simp; omega
      have HF := Lib.hid (fun W (hW : Ext wr W) => few_any a n cap zs 100 (by omega) W (H.out.ext (HX.out.trans (HXf.out.trans hW))) HAn.out)
      go_wp2_with fail
      have HOr := Lib.hid (fun W (hW : Ext wr W) => (HO.out.ext (HXf.out.trans hW)).str)
      have s0 := HOr.out _ (drew_ext wr)
      go_region_with (first | (go_at_call 14; refine (HF.out _ (drew_ext wr)).mono ?_; rintro e w2 ⟨v2, rfl, hO2, hX2'⟩; rw [HY.out] at hO2; have s3 := hO2.str; have hX2 := (drew_ext wr).trans hX2'; have s2 := HOr.out _ hX2) | (go_at_call 13; refine (lives_any _).mono ?_; rintro e w3 ⟨rfl, hX3⟩))
      all_goals
        go_wp2_with fail
        go_ret
        exact ⟨rfl, HX.out.trans (HXf.out.trans (hX2.trans hX3))⟩
end Go.Proofs.Ytggojigbflbloaa
