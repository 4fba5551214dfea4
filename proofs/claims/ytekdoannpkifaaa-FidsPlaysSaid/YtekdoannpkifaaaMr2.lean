/- Rows of numbers of the call's own; the walks of the library's sort of up to twelve of them. -/
import Derived.Test.YtekdoannpkifaaaMr1
import Derived.RegionTactic
import Derived.BigRegion
namespace Go.Proofs.Ytekdoannpkifaaa
open Go.ChangeShapes Go.WideShapes Go.ChangeAt Go.RowKit

def uv (ks : List Int) : List Value := ks.map (Value.int .i64)
/-- The slice value v, of the call's own, holds the numbers ks. -/
def URow (w : World) (base : Nat) (v : Value) (ks : List Int) : Prop := w.ownsRow base 3 1 v ks.length (uv ks)
theorem uv_len (ks : List Int) : (uv ks).length = ks.length := by simp [uv]
theorem uv_one (ks : List Int) : ∀ u ∈ uv ks, u.oneCell' = true := by
  intro u hu
  obtain ⟨k, _, rfl⟩ := List.mem_map.1 hu
  rfl
theorem URow.nil (w : World) (base : Nat) : URow w base (.slice none 0 0) [] := World.ownsRow_nil _ _ _ _
theorem URow.ext {w w' : World} {base : Nat} {v : Value} {ks : List Int} (h : URow w base v ks) (hx : Ext w w') : URow w' base v ks := ownsRow_ext h hx
theorem infoU : (Try.prog.info? 3).map (fun i => (i.zero, i.size, i.bytes)) = some (some (.int .i64 0), 1, 8) := by kernel_rfl
theorem URow.form {w : World} {base : Nat} {v : Value} {ks : List Int} (h : URow w base v ks) : ∃ a cap, v = .slice a ks.length cap ∧ ks.length ≤ cap ∧ cap ≤ maxLen ∧
    ∀ i (hi : i < ks.length), ∃ g, a = some ⟨g, 0, none⟩ ∧ g < w.heap.size ∧ w.cell? ⟨g, i, none⟩ = some (.int .i64 ks[i]) ∧ w.frozen? ⟨g, i, none⟩ = false := by
  rcases h.2 with ⟨rfl, h0⟩ | ⟨g, cap, cur, hv, hb, hg, hn, hm, hs, ht⟩
  · exact ⟨none, 0, by rw [h0], by omega, by unfold maxLen; omega, fun i hi => by omega⟩
  · refine ⟨_, cap, hv, hn, hm, fun i hi => ⟨g, rfl, lt_of_heap hg, ?_, free_of hg i⟩⟩
    rw [Nat.mul_one] at ht
    have h3 : (cur.toList.take ks.length)[i]? = cur[i]? := by rw [List.getElem?_take, if_pos hi]; simp
    rw [cell_of hg i, ← h3, ht]
    simp [uv, hi]
theorem URow.push {w : World} {base : Nat} {v : Value} {ks : List Int} (h : URow w base v ks) (hl : ks.length ≤ 100000) (hb : base ≤ w.heap.size) (k : Int) (ty : TypeId) :
    ∃ v' w', (Builtin.append_ #[23, 23] ty #[v, .slice (some ⟨w.heap.size, 0, none⟩) 1 1]).run Try.prog (w.alloc (.cells #[.int .i64 k] 3)) = .ok v' w' ∧ URow w' base v' (ks ++ [k]) ∧ Upd v.ownBlock.toList w w' := by
  have hx := (Ext.refl w).alloc (.cells #[.int .i64 k] 3)
  obtain ⟨v', w', h1, h2, h3, _⟩ := own_append (P := Try.prog) (t := 23) (ty := ty) Try.underlying23 infoU rfl (by decide) (ownsRow_ext h hx) (src_new w 1 #[.int .i64 k] 3 rfl (by simp [Value.oneCell'])) (by unfold maxLen; omega) (by omega) (by simp; omega)
  refine ⟨v', w', h1, ?_, (hx.upd _).trans h3⟩
  unfold URow
  rw [List.length_append, show uv (ks ++ [k]) = uv ks ++ [.int .i64 k] by simp [uv]]
  exact h2
/-- Two numbers that stand side by side change places. -/
theorem URow.swap {w : World} {base g cap : Nat} {ys : List Int} {n : Nat} (h : URow w base (.slice (some ⟨g, 0, none⟩) n cap) ys) (hn : n = ys.length) (j : Nat) (hj : j + 1 < n) :
    URow ((w.setCell ⟨g, j + 1, none⟩ (.int .i64 (ys.getD j 0))).setCell ⟨g, j, none⟩ (.int .i64 (ys.getD (j + 1) 0))) base (.slice (some ⟨g, 0, none⟩) n cap) (swapI ys (j + 1)) := by
  subst hn
  have := own_store (own_store h (j + 1) (.int .i64 (ys.getD j 0))) j (.int .i64 (ys.getD (j + 1) 0))
  unfold URow
  rw [swapI_len]
  have e : uv (swapI ys (j + 1)) = ((uv ys).set (j + 1) (.int .i64 (ys.getD j 0))).set j (.int .i64 (ys.getD (j + 1) 0)) := by
    simp [uv, swapI, List.map_set]
  rw [e]
  exact this

theorem isNaN_any (x : Int) (w : World) : Calls Try.prog 50 #[.int .i64 x] w fun r w' => r = .returned (.bool false) ∧ w = w' := by
  go_enter Try.func50, Try.ntmps50
  go_wp2
  go_ret
  exact ⟨by simp, rfl⟩
theorem less_any (x y : Int) (w : World) : Calls Try.prog 40 #[.int .i64 x, .int .i64 y] w fun r w' => r = .returned (.bool (decide (x < y))) ∧ w = w' := by
  go_enter Try.func40, Try.ntmps40
  go_wp2_with (go_at_call 50; refine (isNaN_any _ _).mono ?_; rintro r w' ⟨rfl, rfl⟩)
  go_ret
  exact ⟨rfl, rfl⟩
theorem less_quiet (x y : Int) (w : World) (m : Nat) : Calls Try.prog 40 #[.int .i64 x, .int .i64 y] (w.drewN m) fun r w' => r = .returned (.bool (decide (x < y))) ∧ w' = w.drewN m :=
  (less_any x y _).mono fun _ _ q => ⟨q.1, q.2.symm⟩
/-- Where the sort stands: the row ys, of the same numbers. -/
structure SortW (w : World) (base : Nat) (v : Value) (ks ys : List Int) (i j : Nat) (W : World) : Prop where
  perm : ys.Perm ks
  ord : Ord ys i j
  row : URow W base v ys
  upd : Upd v.ownBlock.toList w W

set_option maxRecDepth 100000 in
set_option maxHeartbeats 4000000 in
theorem isort_any (w : World) (base : Nat) (v : Value) (ks : List Int) (h : URow w base v ks) (hl : ks.length ≤ 12) :
    Calls Try.prog 34 #[v, .int .i64 0, .int .i64 ks.length] w fun r w' => r = .returned (.tuple #[]) ∧ ∃ ys, ys.Perm ks ∧ Rises ys ∧ URow w' base v ys ∧ Upd v.ownBlock.toList w w' := by
  have H := Lib.hid h
  obtain ⟨a, cap, rfl, hcl, hcm, -⟩ := h.form
  obtain ⟨n, hn⟩ : ∃ n, n = ks.length := ⟨_, rfl⟩
  rw [← hn] at H hl hcl ⊢
  have HN := Lib.hid hn
  unfold maxLen at hcm
  clear h hn
  go_enter Try.func34, Try.ntmps34
  go_wp2_with fail
  go_loopw [6] (fun v6 wr => ∃ (i : Nat) (ys : List Int), (i = 0 ∨ i + 1 ≤ n) ∧ v6 = .int .i64 ((i : Int) + 1) ∧ SortW w base (.slice a n cap) ks ys i (i + 1) wr) (fun v6 _ => n + 1 - (intOf v6).toNat)
  case atStart => exact ⟨0, ks, .inl rfl, rfl, List.Perm.refl _, Ord.zero _, H.out, Upd.refl _ _⟩
  case round =>
    obtain ⟨i, ys, hi, rfl, hS⟩ := hrel
    have HS := Lib.hid hS
    have HYl := Lib.hid (show ys.length = n by rw [hS.perm.length_eq, HN.out])
    clear hS
    by_cases hin : i + 1 < n
    · have hd : decide ((i : Int) + 1 < (n : Int)) = true := by simp; omega
      obtain ⟨wo, hwo⟩ : ∃ wo : World, wo = wr := ⟨_, rfl⟩
      subst hwo
      go_wp2_with fail
      go_loopw [7] (fun v7 wr => ∃ (j : Nat) (ys : List Int), j ≤ i + 1 ∧ v7 = .int .i64 j ∧ SortW w base (.slice a n cap) ks ys (i + 1) j wr) (fun v7 _ => (intOf v7).toNat)
      case atStart => exact ⟨i + 1, ys, by omega, by go_num, HS.out.perm, HS.out.ord.next, HS.out.row, HS.out.upd⟩
      case round =>
        obtain ⟨j, zs, hj, rfl, hS2⟩ := hrel
        have HS2 := Lib.hid hS2
        have HZl := Lib.hid (show zs.length = n by rw [hS2.perm.length_eq, HN.out])
        clear hS2 HS HYl
        cases j with
        | zero =>
          have HD := Lib.hid (HS2.out.ord.done (by omega) (by rw [HZl.out]; omega) (.inl rfl))
          go_wp2_with fail
          go_quiet (fail)
          go_wp2_with fail
          go_roundw
          case rel => exact ⟨i + 1, zs, .inr (by omega), by go_num, HS2.out.perm, HD.out, HS2.out.row.ext ((Ext.refl _).drewN _), HS2.out.upd.trans (((Ext.refl _).drewN _).upd _)⟩
          case measure => simp [intOf]; omega
        | succ j =>
          obtain ⟨a', cap', e', -, -, hcell⟩ := HS2.out.row.form
          rw [HZl.out] at e'
          injection e' with e1 _ e3
          subst e1 e3
          obtain ⟨g, rfl, hg, q0, f0⟩ := hcell j (by rw [HZl.out]; omega)
          obtain ⟨g', eg, -, q1, f1⟩ := hcell (j + 1) (by rw [HZl.out]; omega)
          injection eg with eg
          injection eg with eg
          subst eg
          clear hcell
          have hj0 : (0 : Int) ≤ (j : Int) := by omega
          have hj1 : (j : Int) < (n : Int) := by omega
          have hj2 : (j : Int) + 1 < (n : Int) := by omega
          have hj3 : decide ((0 : Int) < (j : Int) + 1) = true := decide_eq_true (by omega)
          have hj4 : (0 : Int) ≤ (j : Int) + 1 := by omega
          have hw1 : IntKind.i64.wrap ((j : Int) + 1 - 1) = (j : Int) := by rw [Int.add_sub_cancel, IntWalk.i64_in _ (by omega)]
          have hw2 : ((j : Int) + 1).toNat = j + 1 := by omega
          obtain ⟨x1, hx1⟩ : ∃ x1, x1 = zs[j + 1]'(by rw [HZl.out]; omega) := ⟨_, rfl⟩
          obtain ⟨x0, hx0⟩ : ∃ x0, x0 = zs[j]'(by rw [HZl.out]; omega) := ⟨_, rfl⟩
          rw [← hx1] at q1
          rw [← hx0] at q0
          have HX1 := Lib.hid hx1
          have HX0 := Lib.hid hx0
          clear hx1 hx0
          by_cases hlt : x1 < x0
          · have hdl : decide (x1 < x0) = true := by simpa using hlt
            go_wp2_with fail
            go_quiet ((go_at_call 40; exact Calls.quiet_of_same (less_quiet _ _ _ _)))
            go_wp2_with fail
            obtain ⟨w5, hw5⟩ : ∃ w5, w5 = wr.drewN nq := ⟨_, rfl⟩
            rw [← hw5]
            have q0' : w5.cell? ⟨g, j, none⟩ = some (.int .i64 x0) := by rw [hw5]; exact q0
            have q1' : w5.cell? ⟨g, j + 1, none⟩ = some (.int .i64 x1) := by rw [hw5]; exact q1
            have f0' : w5.frozen? ⟨g, j, none⟩ = false := by rw [hw5]; exact f0
            have f1' : w5.frozen? ⟨g, j + 1, none⟩ = false := by rw [hw5]; exact f1
            have HX5 := Lib.hid (show Ext wr w5 by rw [hw5]; exact (Ext.refl _).drewN _)
            have HR5 := Lib.hid (HS2.out.row.ext HX5.out)
            have e0 : zs.getD j 0 = x0 := by rw [HX0.out]; simp [List.getD, show j < zs.length by rw [HZl.out]; omega]
            have e1 : zs.getD (j + 1) 0 = x1 := by rw [HX1.out]; simp [List.getD, show j + 1 < zs.length by rw [HZl.out]; omega]
            have hN := HR5.out.swap HZl.out.symm j (by omega)
            rw [e0, e1] at hN
            have HNr := Lib.hid hN
            have HO := Lib.hid (HS2.out.ord.step (by omega) hj (by rw [HZl.out]; omega) (by have := HX0.out; have := HX1.out; simp only [Nat.add_sub_cancel]; omega))
            have HP := Lib.hid ((swapI_perm zs (j + 1) (by rw [HZl.out]; omega)).trans HS2.out.perm)
            have HU := Lib.hid (HS2.out.upd.trans (HX5.out.upd _))
            clear q0 q1 f0 f1 hw5 e0 e1 hN
            go_region
            go_wp2_with fail
            go_roundw
            case rel => exact ⟨j, swapI zs (j + 1), by omega, by go_num, HP.out, HO.out, HNr.out.ext ((Ext.refl _).drew), (((HU.out.setCell _ _ (.inl (by simp [Value.ownBlock]))).setCell _ _ (.inl (by simp [Value.ownBlock])))).drew⟩
            case measure => simp [intOf]
          · have hdl : decide (x1 < x0) = false := by simpa using hlt
            have HD := Lib.hid (HS2.out.ord.done (by omega) (by rw [HZl.out]; omega) (.inr ⟨by omega, by have := HX0.out; have := HX1.out; simp only [Nat.add_sub_cancel]; omega⟩))
            go_wp2_with fail
            go_quiet ((go_at_call 40; exact Calls.quiet_of_same (less_quiet _ _ _ _)))
            go_wp2_with fail
            go_roundw
            case rel => exact ⟨i + 1, zs, .inr (by omega), by go_num, HS2.out.perm, HD.out, HS2.out.row.ext ((Ext.refl _).drewN _), HS2.out.upd.trans (((Ext.refl _).drewN _).upd _)⟩
            case measure => simp [intOf]; omega
    · have hd : decide ((i : Int) + 1 < (n : Int)) = false := by simp; omega
      go_wp2_with fail
      go_end0
      exact ⟨rfl, ys, HS.out.perm, HS.out.ord.rises (by rw [HYl.out]; omega), HS.out.row, HS.out.upd⟩
end Go.Proofs.Ytekdoannpkifaaa
