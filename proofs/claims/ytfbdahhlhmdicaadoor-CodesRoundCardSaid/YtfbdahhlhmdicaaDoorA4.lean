/- The walks of the reference's functions. -/
import Derived.Test.YtfbdahhlhmdicaaDoorA3
namespace Go.Proofs.YtfbdahhlhmdicaaDoor
open Go.ChangeShapes Go.WideShapes Go.ChangeAt Go.RowKit

def errs : List Int := rows.map Row.e
def stats : List Int := rows.map Row.s
def errArr : Array Value := (errs.map (Value.int .i64)).toArray
def statArr : Array Value := (stats.map (Value.int .u32)).toArray
def textArr : Array Value := (rows.map fun r => Value.string ⟨r.t.toArray⟩).toArray

/-! ### plain -/
theorem pick_mem (p : Row → Bool) : pick p ∈ rows := by
  unfold pick
  cases h : rows.find? p with
  | none => decide
  | some r => exact List.mem_of_find?_eq_some h
theorem code_at : ∀ k, k < 19 → (rowAt k).c = k := by decide
theorem err_at (k : Nat) (hk : k < 19) : errs.getD k 0 = (rowAt k).e := (show ∀ k, k < 19 → errs.getD k 0 = (rowAt k).e by decide) k hk
theorem stat_at (k : Nat) (hk : k < 19) : stats.getD k 0 = (rowAt k).s := (show ∀ k, k < 19 → stats.getD k 0 = (rowAt k).s by decide) k hk
theorem mem_code : ∀ r ∈ rows, 0 ≤ r.c ∧ r.c < 19 ∧ rowAt (r.c.toNat) = r := by decide
theorem byC_in (k : Nat) (hk : k < 19) : byC k = rowAt k := by
  refine pick_at _ k hk (fun j hj => ?_) ?_
  · rw [code_at j (by omega)]; simp; omega
  · rw [code_at k hk]; simp
theorem byC_out (n : Int) (h : n < 0 ∨ 18 < n) : byC n = ioRow := by
  refine pick_none _ (fun j hj => ?_)
  rw [code_at j hj]; simp; omega

theorem step_none {p : Row → Bool} {k : Nat} (h : ∀ j, j < k → p (rowAt j) = false) (hk : p (rowAt k) = false) : ∀ j, j < k + 1 → p (rowAt j) = false := by
  intro j hj
  by_cases e : j = k
  · rw [e]; exact hk
  · exact h j (by omega)

/-! ### walks -/
def arnd (n m : Int) : Int := (if n < 0 then -(n + 1) else n) % m
theorem arnd_bd (n m : Int) (hm : 0 < m) : 0 ≤ arnd n m ∧ arnd n m < m := ⟨Int.emod_nonneg _ (by omega), Int.emod_lt_of_pos _ hm⟩
theorem ret_int {k : IntKind} {a b : Int} (h : a = b) : Ending.returned (.int k a) = .returned (.int k b) := by rw [h]
theorem around_any (n m : Int) (w : World) (hm : 0 < m) (hn : -9223372036854775808 ≤ n) (hn2 : n ≤ 9223372036854775807) :
    Calls Tryd.prog 8 #[.int .i64 n, .int .i64 m] w fun r w' => r = .returned (.int .i64 (arnd n m)) ∧ w = w' := by
  by_cases h : n < 0
  · have H := Lib.hid (show arnd n m = -((n + 1).tmod m) by
      unfold arnd; rw [if_pos h, ← Int.neg_tmod, Int.tmod_eq_emod_of_nonneg (by omega)])
    go_enter Tryd.func8, Tryd.ntmps8
    go_wp2
    go_ret
    exact ⟨ret_int H.out.symm, rfl⟩
  · have H := Lib.hid (show arnd n m = n % m by unfold arnd; rw [if_neg h])
    go_enter Tryd.func8, Tryd.ntmps8
    go_wp2
    go_ret
    exact ⟨ret_int H.out.symm, rfl⟩
theorem refAll_any (w : World) : Calls Tryd.prog 21 #[] w fun r w' => r = .returned (.slice (some ⟨w.heap.size, 0, none⟩) 19 19) ∧ w.alloc (.cells errArr 22) = w' := by
  go_enter Tryd.func21, Tryd.ntmps21
  go_wp2
  go_ret
  exact ⟨rfl, rfl⟩
theorem refStatuses_any (w : World) : Calls Tryd.prog 23 #[] w fun r w' => r = .returned (.slice (some ⟨w.heap.size, 0, none⟩) 19 19) ∧ w.alloc (.cells statArr 25) = w' := by
  go_enter Tryd.func23, Tryd.ntmps23
  go_wp2
  go_ret
  exact ⟨rfl, rfl⟩
theorem errCell (w : World) (g : Nat) (h : w.heap[g]? = some (.cells errArr 22 (0, 0))) (k : Nat) (hk : k < 19) : w.cell? ⟨g, k, none⟩ = some (.int .i64 (rowAt k).e) := by
  simp only [World.cell?, h]
  exact (show ∀ k, k < 19 → (if (none : Option Nat).isSome = true then none else errArr[k]?) = some (.int .i64 (rowAt k).e) from fun k hk => by
    rw [← err_at k hk]
    simp [errArr, show k < errs.length from hk]) k hk
theorem statCell (w : World) (g : Nat) (h : w.heap[g]? = some (.cells statArr 25 (0, 0))) (k : Nat) (hk : k < 19) : w.cell? ⟨g, k, none⟩ = some (.int .u32 (rowAt k).s) := by
  simp only [World.cell?, h]
  rw [← stat_at k hk]
  simp [statArr, show k < stats.length from hk]

set_option maxHeartbeats 400000 in
theorem refCode_any (e : Int) (w : World) : Calls Tryd.prog 12 #[.int .i64 e] w fun r w' => r = .returned (.int .i64 (byE e).c) ∧ Ext w w' := by
  go_enter Tryd.func12, Tryd.ntmps12
  go_wp2_with fail
  refine (refAll_any w).mono ?_
  rintro r w2 ⟨rfl, hw2⟩
  have Hc := Lib.hid (errCell w2 w.heap.size (by rw [← hw2]; exact heap_alloc_new w _))
  have Hx := Lib.hid (show Ext w w2 by rw [← hw2]; exact (Ext.refl w).alloc _)
  clear hw2
  go_wp2_with fail
  go_loop [4] (fun v4 => ∃ k : Nat, k ≤ 19 ∧ v4 = .int .i64 k ∧ Hid (∀ j, j < k → ((rowAt j).e == e) = false)) (fun v4 => 19 - (intOf v4).toNat)
  case atStart => exact ⟨0, by omega, rfl, fun j hj => absurd hj (by omega)⟩
  case round =>
    obtain ⟨k, hk, rfl, HN⟩ := hrel
    by_cases hlt : k < 19
    · have hd : decide ((k : Int) < 19) = true := by simp; omega
      have hc := Hc.out k hlt
      have Hp := Lib.hid (fun h => pick_at (fun r => r.e == e) k hlt HN.out h)
      have Hcode := Lib.hid (code_at k hlt)
      cases hq : ((rowAt k).e == e)
      · go_wp2_with fail
        go_round
        case rel => exact ⟨k + 1, by omega, by go_num, Lib.hid (step_none (p := fun r => r.e == e) HN.out hq)⟩
        case measure => simp [intOf]; omega
      · go_wp2_with fail
        go_ret
        exact ⟨ret_int (by unfold byE; rw [Hp.out hq, Hcode.out]), Hx.out⟩
    · have hd : decide ((k : Int) < 19) = false := by simp; omega
      go_wp2_with fail
      go_ret
      exact ⟨ret_int (by unfold byE; rw [pick_none _ (fun j hj => HN.out j (by omega))]; rfl), Hx.out⟩

theorem byE_mem (e : Int) : ∃ k : Nat, k < 19 ∧ byE e = rowAt k ∧ (byE e).c = k := by
  obtain ⟨h0, h1, h2⟩ := mem_code (byE e) (pick_mem _)
  exact ⟨(byE e).c.toNat, by omega, h2.symm, by omega⟩
theorem refStatus_any (e : Int) (w : World) : Calls Tryd.prog 10 #[.int .i64 e] w fun r w' => r = .returned (.int .u32 (byE e).s) ∧ Ext w w' := by
  obtain ⟨k, hk, he, hc⟩ := byE_mem e
  have He := Lib.hid he
  have Hc := Lib.hid hc
  clear he hc
  go_enter Tryd.func10, Tryd.ntmps10
  go_wp2_with fail
  refine (refStatuses_any w).mono ?_
  rintro r w2 ⟨rfl, hw2⟩
  have Hs := Lib.hid (statCell w2 w.heap.size (by rw [← hw2]; exact heap_alloc_new w _) k hk)
  have Hx := Lib.hid (show Ext w w2 by rw [← hw2]; exact (Ext.refl w).alloc _)
  have H2 := Lib.hid (show w2.heap[w.heap.size]? = some (.cells statArr 25 (0, 0)) by rw [← hw2]; exact heap_alloc_new w _)
  clear hw2
  go_wp2_with fail
  refine (refCode_any e w2).mono ?_
  rintro r w3 ⟨rfl, hx⟩
  rw [Hc.out]
  have hcell := statCell w3 w.heap.size (hx.heap H2.out) k hk
  have HX := Lib.hid hx
  clear hx
  go_wp2_with fail
  go_ret
  exact ⟨ret_int (by rw [He.out]), Hx.out.trans HX.out⟩
theorem textCell (w : World) (g : Nat) (h : w.heap[g]? = some (.cells textArr 9 (0, 0))) (k : Nat) (hk : k < 19) : w.cell? ⟨g, k, none⟩ = some (.string ⟨(rowAt k).t.toArray⟩) := by
  simp only [World.cell?, h]
  have hk' : k < rows.length := hk
  simp [textArr, hk', rowAt]
theorem refText_any (e : Int) (w : World) : Calls Tryd.prog 14 #[.int .i64 e] w fun r w' => r = .returned (.string ⟨(byE e).t.toArray⟩) ∧ Ext w w' := by
  obtain ⟨k, hk, he, hc⟩ := byE_mem e
  have He := Lib.hid he
  have Hc := Lib.hid hc
  clear he hc
  go_enter Tryd.func14, Tryd.ntmps14
  go_wp2_with fail
  refine (refCode_any e _).mono ?_
  rintro r w3 ⟨rfl, hx⟩
  rw [Hc.out]
  have hcell := textCell w3 w.heap.size (hx.heap (heap_alloc_new w _)) k hk
  have HX := Lib.hid hx
  clear hx
  go_wp2_with fail
  go_ret
  exact ⟨by rw [He.out]; rfl, ((Ext.refl w).alloc _).trans HX.out⟩
theorem refFromCode_any (n : Int) (w : World) (h0 : -9223372036854775808 ≤ n) (h1 : n ≤ 9223372036854775807) : Calls Tryd.prog 19 #[.int .i64 n] w fun r w' => r = .returned (.int .i64 (byC n).e) ∧ Ext w w' := by
  by_cases hlo : n < 0
  · have H := Lib.hid (byC_out n (Or.inl hlo))
    have hd : decide (n < 0) = true := by simpa using hlo
    go_enter Tryd.func19, Tryd.ntmps19
    go_wp2_with fail
    go_ret
    exact ⟨ret_int (by rw [H.out]; rfl), Ext.refl w⟩
  · have hd : decide (n < 0) = false := by simpa using hlo
    by_cases hhi : 18 < n
    · have H := Lib.hid (byC_out n (Or.inr hhi))
      have hd2 : decide (18 < n) = true := by simpa using hhi
      go_enter Tryd.func19, Tryd.ntmps19
      go_wp2_with fail
      go_ret
      exact ⟨ret_int (by rw [H.out]; rfl), Ext.refl w⟩
    · have hd2 : decide (18 < n) = false := by simpa using hhi
      obtain ⟨k, rfl⟩ := Int.eq_ofNat_of_zero_le (show 0 ≤ n by omega)
      have hk : k < 19 := by omega
      have H := Lib.hid (byC_in k hk)
      go_enter Tryd.func19, Tryd.ntmps19
      go_wp2_with fail
      refine (refAll_any w).mono ?_
      rintro r w2 ⟨rfl, hw2⟩
      have hs := errCell w2 w.heap.size (by rw [← hw2]; exact heap_alloc_new w _) k hk
      have Hx := Lib.hid (show Ext w w2 by rw [← hw2]; exact (Ext.refl w).alloc _)
      clear hw2
      go_wp2_with fail
      go_ret
      exact ⟨ret_int (by rw [H.out]), Hx.out⟩
set_option maxHeartbeats 400000 in
theorem refFromStatus_any (e : Int) (w : World) : Calls Tryd.prog 17 #[.int .u32 e] w fun r w' => r = .returned (.int .i64 (byS e).e) ∧ Ext w w' := by
  go_enter Tryd.func17, Tryd.ntmps17
  go_wp2_with fail
  refine (refStatuses_any w).mono ?_
  rintro r w2 ⟨rfl, hw2⟩
  have Hc := Lib.hid (statCell w2 w.heap.size (by rw [← hw2]; exact heap_alloc_new w _))
  have Hx := Lib.hid (show Ext w w2 by rw [← hw2]; exact (Ext.refl w).alloc _)
  clear hw2
  go_wp2_with fail
  go_loop [4] (fun v4 => ∃ k : Nat, k ≤ 19 ∧ v4 = .int .i64 k ∧ Hid (∀ j, j < k → ((rowAt j).s == e) = false)) (fun v4 => 19 - (intOf v4).toNat)
  case atStart => exact ⟨0, by omega, rfl, fun j hj => absurd hj (by omega)⟩
  case round =>
    obtain ⟨k, hk, rfl, HN⟩ := hrel
    by_cases hlt : k < 19
    · have hd : decide ((k : Int) < 19) = true := by simp; omega
      have hc := Hc.out k hlt
      have Hp := Lib.hid (fun h => pick_at (fun r => r.s == e) k hlt HN.out h)
      cases hq : ((rowAt k).s == e)
      · go_wp2_with fail
        go_round
        case rel => exact ⟨k + 1, by omega, by go_num, Lib.hid (step_none (p := fun r => r.s == e) HN.out hq)⟩
        case measure => simp [intOf]; omega
      · go_wp2_with fail
        refine (refAll_any w2).mono ?_
        rintro r w3 ⟨rfl, hw3⟩
        have hs := errCell w3 w2.heap.size (by rw [← hw3]; exact heap_alloc_new w2 _) k hlt
        have Hx3 := Lib.hid (show Ext w2 w3 by rw [← hw3]; exact (Ext.refl w2).alloc _)
        clear hw3 hc
        go_wp2_with fail
        go_ret
        exact ⟨ret_int (by unfold byS; rw [Hp.out hq]), Hx.out.trans Hx3.out⟩
    · have hd : decide ((k : Int) < 19) = false := by simp; omega
      go_wp2_with fail
      go_ret
      exact ⟨ret_int (by unfold byS; rw [pick_none _ (fun j hj => HN.out j (by omega))]; rfl), Hx.out⟩

theorem lives_any (w : World) (ht : TabW w) : Calls Tryd.prog 15 #[] w fun r w' => r = .returned (.bool true) ∧ Ext w w' := by
  have HT := Lib.hid ht
  clear ht
  go_enter Tryd.func15, Tryd.ntmps15
  go_wp2_with fail
  refine (status_any 9 _ HT.out).mono ?_
  rintro r w1 ⟨rfl, hx1⟩
  rw [show (byE 9).s = 2 from rfl]
  have H1 := Lib.hid hx1
  clear hx1
  go_wp2_with fail
  refine (code_any 9 _ (HT.out.ext H1.out)).mono ?_
  rintro r w2 ⟨rfl, hx2⟩
  rw [show (byE 9).c = 2 from rfl]
  have H2 := Lib.hid (H1.out.trans hx2)
  clear hx2
  go_wp2_with fail
  refine (text_any 9 _ (HT.out.ext H2.out)).mono ?_
  rintro r w3 ⟨rfl, hx3⟩
  rw [show (byE 9).t = [110, 111, 32, 115, 117, 99, 104, 32, 110, 97, 109, 101] from rfl]
  have H3 := Lib.hid (H2.out.trans hx3)
  clear hx3
  go_wp2_with fail
  refine (fromStatus_any 99 _ (HT.out.ext H3.out)).mono ?_
  rintro r w4 ⟨rfl, hx4⟩
  rw [show (byS 99).e = 21 from rfl]
  have H4 := Lib.hid (H3.out.trans hx4)
  clear hx4
  go_wp2_with fail
  go_ret
  exact ⟨rfl, H4.out⟩
end Go.Proofs.YtfbdahhlhmdicaaDoor
