/- Rows of calls of the call's own, and the walks of the document's mux but its Live. -/
import Derived.Test.YtladpgjhifbphaaMr3
import Derived.Test.YtladpgjhifbphaaMux4
namespace Go.Proofs.Ytladpgjhifbphaa
open Go.ChangeShapes Go.WideShapes Go.ChangeAt Go.RowKit

def MC.cells (c : MC) : List Value := [.int .u32 c.k, .int .u32 c.p, .int .i64 c.x]
def cCells (l : List MC) : List Value := l.flatMap MC.cells
theorem cCells_cons (c : MC) (l : List MC) : cCells (c :: l) = c.cells ++ cCells l := rfl
theorem cCells_len : ∀ l : List MC, (cCells l).length = l.length * 3
  | [] => rfl
  | c :: l => by
    rw [cCells_cons, List.length_append, cCells_len l]
    simp [MC.cells]
    omega
theorem cCells_at : ∀ (l : List MC) (i : Nat) (h : i < l.length), (cCells l)[i * 3]? = some (.int .u32 l[i].k) ∧ (cCells l)[i * 3 + 1]? = some (.int .u32 l[i].p) ∧ (cCells l)[i * 3 + 2]? = some (.int .i64 l[i].x)
  | [], i, h => by simp at h
  | c :: l, 0, h => by simp [cCells_cons, MC.cells]
  | c :: l, i + 1, h => by
    have ih := cCells_at l i (by simpa using h)
    rw [cCells_cons, show (i + 1) * 3 = i * 3 + 3 by omega]
    simpa [MC.cells] using ih
theorem cCells_app (a b : List MC) : cCells (a ++ b) = cCells a ++ cCells b := by simp [cCells]
theorem cCells_take : ∀ (l : List MC) (k : Nat), cCells (l.take k) = (cCells l).take (k * 3)
  | [], k => by simp [cCells]
  | c :: l, 0 => by simp [cCells]
  | c :: l, k + 1 => by
    rw [List.take_succ_cons, cCells_cons, cCells_take l k, cCells_cons, show (k + 1) * 3 = c.cells.length + k * 3 by simp [MC.cells]; omega, List.take_length_add_append]
theorem cCells_drop : ∀ (l : List MC) (k : Nat), cCells (l.drop k) = (cCells l).drop (k * 3)
  | [], k => by simp [cCells]
  | c :: l, 0 => by simp
  | c :: l, k + 1 => by
    rw [List.drop_succ_cons, cCells_drop l k, cCells_cons, show (k + 1) * 3 = c.cells.length + k * 3 by simp [MC.cells]; omega, List.drop_length_add_append]
theorem cCells_one (l : List MC) : ∀ u ∈ cCells l, u.oneCell' = true := by
  intro u hu
  simp only [cCells, List.mem_flatMap, MC.cells] at hu
  obtain ⟨r, _, h⟩ := hu
  simp at h
  rcases h with rfl | rfl | rfl <;> rfl
/-- The slice value v, of the call's own, holds the calls l. -/
def CRow (w : World) (base : Nat) (v : Value) (l : List MC) : Prop := w.ownsRow base 51 3 v l.length (cCells l)
theorem CRow.ext {w w' : World} {base : Nat} {v : Value} {l : List MC} (h : CRow w base v l) (hx : Ext w w') : CRow w' base v l := ownsRow_ext h hx
theorem CRow.form {w : World} {base : Nat} {v : Value} {l : List MC} (h : CRow w base v l) : ∃ a cap, v = .slice a l.length cap ∧ l.length ≤ cap ∧ cap ≤ maxLen ∧
    ∀ i (hi : i < l.length), ∃ g, a = some ⟨g, 0, none⟩ ∧ g < w.heap.size ∧ w.cell? ⟨g, i * 3, none⟩ = some (.int .u32 l[i].k) ∧ w.cell? ⟨g, i * 3 + 1, none⟩ = some (.int .u32 l[i].p) ∧ w.cell? ⟨g, i * 3 + 2, none⟩ = some (.int .i64 l[i].x) := by
  rcases h.2 with ⟨rfl, h0⟩ | ⟨g, cap, cur, hv, hb, hg, hn, hm, hs', ht⟩
  · exact ⟨none, 0, by rw [h0], by omega, by unfold maxLen; omega, fun i hi => by omega⟩
  · refine ⟨_, cap, hv, hn, hm, fun i hi => ⟨g, rfl, lt_of_heap hg, ?_⟩⟩
    have key : ∀ j, j < l.length * 3 → w.cell? ⟨g, j, none⟩ = (cCells l)[j]? := fun j hj => by
      rw [cell_of hg j, ← ht, List.getElem?_take, if_pos hj]; simp
    obtain ⟨q0, q1, q2⟩ := cCells_at l i hi
    exact ⟨(key _ (by omega)).trans q0, (key _ (by omega)).trans q1, (key _ (by omega)).trans q2⟩
theorem infoC : (Try.prog.info? 51).map (fun i => (i.zero, i.size, i.bytes)) = some (some (.agg #[.int .u32 0, .int .u32 0, .int .i64 0]), 3, 16) := by kernel_rfl
theorem sizeC : (Try.prog.info? 51).map (·.size) = some 3 := by kernel_rfl
/-- 'append(v, x...)' of calls. -/
theorem CRow.app {w : World} {base : Nat} {v x : Value} {l m : List MC} (h : CRow w base v l) (hx : SrcRow w 3 x m.length (cCells m)) (hl : l.length + m.length ≤ 1000) (hb : base ≤ w.heap.size) (ty : TypeId) :
    ∃ v' w', (Builtin.append_ #[52, 52] ty #[v, x]).run Try.prog w = .ok v' w' ∧ CRow w' base v' (l ++ m) ∧ Upd v.ownBlock.toList w w' := by
  obtain ⟨v', w', h1, h2, h3, _⟩ := own_append (P := Try.prog) (t := 52) (ty := ty) Try.underlying52 infoC rfl (by decide) h hx (by unfold maxLen; omega) (by omega) hb
  refine ⟨v', w', h1, ?_, h3⟩
  unfold CRow
  rw [cCells_app, List.length_append]
  exact h2
theorem CRow.nil (w : World) (base : Nat) : CRow w base (.slice none 0 0) [] := World.ownsRow_nil _ _ _ _

/-- Which call has a number. -/
def isK (k : Int) (c : MC) : Bool := c.k == k
theorem firstK {α : Type} (p : α → Bool) : ∀ L : List α, (∃ k, ∃ hk : k < L.length, p L[k] = true ∧ ∀ j (hj : j < L.length), j < k → p L[j] = false) ∨ ∀ j (hj : j < L.length), p L[j] = false
  | [] => .inr fun j hj => by simp at hj
  | x :: L => by
    cases hp : p x
    · rcases firstK p L with ⟨k, hk, h1, h2⟩ | h
      · refine .inl ⟨k + 1, by simpa using hk, by simpa using h1, fun j hj hlt => ?_⟩
        cases j with
        | zero => exact hp
        | succ j => exact h2 j (by simpa using hj) (by omega)
      · refine .inr fun j hj => ?_
        cases j with
        | zero => exact hp
        | succ j => exact h j (by simpa using hj)
    · exact .inl ⟨0, by simp, hp, fun j hj h => by omega⟩
theorem look_at : ∀ (l : List MC) (x : Int) (k : Nat) (hk : k < l.length), isK x l[k] = true → (∀ j (hj : j < l.length), j < k → isK x l[j] = false) → lookC l x = some l[k] ∧ delC l x = l.eraseIdx k
  | [], x, k, hk, _, _ => by simp at hk
  | c :: l, x, 0, hk, h1, _ => by
    have : c.k = x := by simpa [isK] using h1
    simp [lookC, delC, this]
  | c :: l, x, k + 1, hk, h1, h2 => by
    have hc0 : isK x c = false := h2 0 (by simp) (by omega)
    have hc : ¬ c.k = x := by simpa [isK] using hc0
    have ih := look_at l x k (by simpa using hk) (by simpa using h1) (fun j hj hlt => h2 (j + 1) (by simpa using hj) (by omega))
    simp [lookC, delC, hc, ih.1, ih.2]
theorem look_not : ∀ (l : List MC) (x : Int), (∀ j (hj : j < l.length), isK x l[j] = false) → lookC l x = none
  | [], x, _ => rfl
  | c :: l, x, h => by
    have hc0 : isK x c = false := h 0 (by simp)
    have hc : ¬ c.k = x := by simpa [isK] using hc0
    have ih := look_not l x (fun j hj => h (j + 1) (by simpa using hj))
    simp [lookC, hc, ih]

set_option maxRecDepth 100000 in
set_option maxHeartbeats 2000000 in
theorem find_some (w : World) (base : Nat) (nx most : Int) (v : Value) (l : List MC) (h : CRow w base v l) (hl : l.length ≤ 100) (x : Int) (k : Nat) (hk : k < l.length) (hh : isK x l[k] = true) (hb : ∀ j (hj : j < l.length), j < k → isK x l[j] = false) :
    Calls Try.prog 28 #[.agg #[.int .u32 nx, .int .i64 most, v], .int .u32 x] w fun r w' => r = .returned (.int .i64 k) ∧ Ext w w' := by
  have H := Lib.hid h
  have HH := Lib.hid hh
  have HB := Lib.hid hb
  obtain ⟨a, cap, rfl, -⟩ := h.form
  clear h hh hb
  go_enter Try.func28, Try.ntmps28
  go_wp2_with fail
  go_loop [5] (fun v5 => ∃ j : Nat, j ≤ k ∧ v5 = .int .i64 j) (fun v5 => k - (intOf v5).toNat)
  case atStart => exact ⟨0, by omega, rfl⟩
  case round =>
    obtain ⟨j, hj, rfl⟩ := hrel
    have hjl : j < l.length := by omega
    obtain ⟨a', cap', hv', hcl, hcm, hcell⟩ := H.out.form
    injection hv' with e1 _ e2
    subst e1 e2
    unfold maxLen at hcm
    obtain ⟨g, rfl, hg, q0, q1, q2⟩ := hcell j hjl
    have hd : decide (j < l.length) = true := by simpa using hjl
    have hj0 : (0 : Int) ≤ (j : Int) := by omega
    have hj1 : (j : Int) < (l.length : Int) := by omega
    clear hcell
    by_cases hjk : j < k
    · have hp : (l[j].k == x) = false := HB.out j hjl hjk
      generalize l[j].k = ri at *
      go_wp2_with fail
      go_round
      case rel => exact ⟨j + 1, by omega, by go_num⟩
      case measure => simp [intOf]; omega
    · obtain rfl : j = k := by omega
      have hh : l[j].k = x := by simpa [isK] using HH.out
      rw [hh] at q0
      clear hh
      go_wp2_with fail
      go_ret
      exact ⟨rfl, (Ext.refl w).alloc _⟩
set_option maxRecDepth 100000 in
set_option maxHeartbeats 2000000 in
theorem find_none (w : World) (base : Nat) (nx most : Int) (v : Value) (l : List MC) (h : CRow w base v l) (hl : l.length ≤ 100) (x : Int) (hb : ∀ j (hj : j < l.length), isK x l[j] = false) :
    Calls Try.prog 28 #[.agg #[.int .u32 nx, .int .i64 most, v], .int .u32 x] w fun r w' => r = .returned (.int .i64 (-1)) ∧ Ext w w' := by
  have H := Lib.hid h
  have HB := Lib.hid hb
  obtain ⟨a, cap, rfl, -⟩ := h.form
  clear h hb
  go_enter Try.func28, Try.ntmps28
  go_wp2_with fail
  go_loop [5] (fun v5 => ∃ j : Nat, j ≤ l.length ∧ v5 = .int .i64 j) (fun v5 => l.length - (intOf v5).toNat)
  case atStart => exact ⟨0, by omega, rfl⟩
  case round =>
    obtain ⟨j, hj, rfl⟩ := hrel
    by_cases hjl : j < l.length
    · obtain ⟨a', cap', hv', hcl, hcm, hcell⟩ := H.out.form
      injection hv' with e1 _ e2
      subst e1 e2
      unfold maxLen at hcm
      obtain ⟨g, rfl, hg, q0, q1, q2⟩ := hcell j hjl
      have hd : decide (j < l.length) = true := by simpa using hjl
      have hj0 : (0 : Int) ≤ (j : Int) := by omega
      have hj1 : (j : Int) < (l.length : Int) := by omega
      have hp : (l[j].k == x) = false := HB.out j hjl
      clear hcell
      generalize l[j].k = ri at *
      go_wp2_with fail
      go_round
      case rel => exact ⟨j + 1, by omega, by go_num⟩
      case measure => simp [intOf]; omega
    · have hd : decide (j < l.length) = false := by simpa using hjl
      go_wp2_with fail
      go_ret
      exact ⟨rfl, (Ext.refl w).alloc _⟩

/-- A box of three cells, and an empty one, behind it. -/
theorem blk3' {w : World} {g : Nat} {a b c : Value} {t : TypeId} (h : w.heap[g]? = some (.cells #[a, b, c] t (0, 0))) :
    w.cell? ⟨g, 0, none⟩ = some a ∧ w.cell? ⟨g, 1, none⟩ = some b ∧ w.cell? ⟨g, 2, none⟩ = some c ∧ w.frozen? ⟨g, 0, none⟩ = false ∧ w.frozen? ⟨g, 1, none⟩ = false ∧ w.frozen? ⟨g, 2, none⟩ = false := blk3 h
set_option maxRecDepth 100000 in
set_option maxHeartbeats 4000000 in
theorem without_any (w : World) (base : Nat) (nx most : Int) (v : Value) (l : List MC) (h : CRow w base v l) (hl : l.length ≤ 100) (k : Nat) (hk : k < l.length) :
    Calls Try.prog 31 #[.agg #[.int .u32 nx, .int .i64 most, v], .int .i64 k] w fun r w' => ∃ v', r = .returned (.agg #[.int .u32 nx, .int .i64 most, v']) ∧ CRow w' w.heap.size v' (l.eraseIdx k) ∧ Ext w w' := by
  have hE : Ext w ((w.alloc (.cells #[.int .u32 nx, .int .i64 most, v] 54)).alloc (.cells #[.int .u32 0, .int .i64 0, .slice none 0 0] 54)) := ((Ext.refl w).alloc _).alloc _
  obtain ⟨W, hW⟩ : ∃ W, W = (w.alloc (.cells #[.int .u32 nx, .int .i64 most, v] 54)).alloc (.cells #[.int .u32 0, .int .i64 0, .slice none 0 0] 54) := ⟨_, rfl⟩
  rw [← hW] at hE
  have b0 : W.heap[w.heap.size]? = some (.cells #[.int .u32 nx, .int .i64 most, v] 54 (0, 0)) := by rw [hW]; exact heap_alloc2_old w _ _
  have b1 : W.heap[w.heap.size + 1]? = some (.cells #[.int .u32 0, .int .i64 0, .slice none 0 0] 54 (0, 0)) := by rw [hW]; exact heap_alloc2_new w _ _
  have hz : W.heap.size = w.heap.size + 2 := by rw [hW]; simp
  have hr := h.ext hE
  obtain ⟨v1, s1, s2⟩ := own_head (P := Try.prog) (t := 52) hr (cCells_one l) Try.underlying52 sizeC k (by omega)
  rw [← cCells_take] at s2
  obtain ⟨v2, w2, p1, p2, p3⟩ := (CRow.nil W W.heap.size).app (m := l.take k) (by rw [show (l.take k).length = k by rw [List.length_take]; omega]; exact s2) (by rw [List.length_take]; simp; omega) (Nat.le_refl _) 52
  have hx2 := upd_nil_ext p3
  obtain ⟨v3, t1, t2⟩ := own_tail (P := Try.prog) (t := 52) (ownsRow_ext hr hx2) (cCells_one l) Try.underlying52 sizeC (k + 1) (by omega)
  rw [← cCells_drop] at t2
  obtain ⟨v4, w4, r1, r2, r3⟩ := p2.app (m := l.drop (k + 1)) (by rw [List.length_drop]; exact t2) (by rw [List.length_drop, List.nil_append, List.length_take]; omega) hx2.size 52
  rw [List.nil_append] at p2 r2
  rw [show l.take k ++ l.drop (k + 1) = l.eraseIdx k from (List.eraseIdx_eq_take_drop_succ l k).symm] at r2
  have hfar : ∀ q ∈ v2.ownBlock.toList, w.heap.size + 2 ≤ q := fun q hq => by
    have := (World.ownsRow.lt p2 q (by simpa using hq)).1; omega
  have c0 := r3.heap (hx2.heap b0) (fun hm => by have := hfar _ hm; omega)
  have c1 := r3.heap (hx2.heap b1) (fun hm => by have := hfar _ hm; omega)
  obtain ⟨a, cap, rfl, -⟩ := h.form
  obtain ⟨a2, cap2, rfl, -⟩ := p2.form
  obtain ⟨a4, cap4, rfl, -⟩ := r2.form
  have d0 := (blk3 b0).2.2.1
  have d2 := (blk3 (hx2.heap b0)).2.2.1
  obtain ⟨e0, e1, e2, -, -, e5⟩ := blk3 c0
  obtain ⟨f0, f1, f2, f3, f4, f5⟩ := blk3 c1
  have lz := lt_of_heap c1
  generalize (l.eraseIdx k).length = n4 at *
  generalize (l.take k).length = n2 at *
  generalize l.length = n at *
  have HU : Hid (CRow ((((w4.setCell ⟨w.heap.size, 2, none⟩ (.slice a4 n4 cap4)).setCell ⟨w.heap.size + 1, 0, none⟩ (.int .u32 nx)).setCell ⟨w.heap.size + 1, 1, none⟩ (.int .i64 most)).setCell ⟨w.heap.size + 1, 2, none⟩ (.slice a4 n4 cap4)) w.heap.size (.slice a4 n4 cap4) (l.eraseIdx k)) :=
    Lib.hid (ownsRow_mono (ownsRow_upd r2 (((((Upd.refl [w.heap.size, w.heap.size + 1] _).setCell _ _ (by simp)).setCell _ _ (by simp)).setCell _ _ (by simp)).setCell _ _ (by simp)) (fun g0 e0 => by have := (World.ownsRow.lt r2 g0 e0).1; simp; omega)) (by omega))
  have HX : Hid (Ext w ((((w4.setCell ⟨w.heap.size, 2, none⟩ (.slice a4 n4 cap4)).setCell ⟨w.heap.size + 1, 0, none⟩ (.int .u32 nx)).setCell ⟨w.heap.size + 1, 1, none⟩ (.int .i64 most)).setCell ⟨w.heap.size + 1, 2, none⟩ (.slice a4 n4 cap4))) := by
    have hw4 : Ext w w4 := r3.ext (hE.trans hx2) (fun q hq => by have := hfar q hq; omega)
    exact Lib.hid ((((((Upd.refl [w.heap.size, w.heap.size + 1] w4).setCell _ _ (by simp)).setCell _ _ (by simp)).setCell _ _ (by simp)).setCell _ _ (by simp)).ext hw4 (by simp))
  have S1 := Lib.hid s1
  have P1 := Lib.hid p1
  have T1 := Lib.hid t1
  have R1 := Lib.hid r1
  have HWW := Lib.hid hW
  clear h hE hr s1 s2 p1 p2 p3 t1 t2 r1 r2 r3 b0 b1 c0 c1 hfar hx2 hW hz
  go_enter Try.func31, Try.ntmps31
  go_upto_region 1 with (fail)
  rw [← HWW.out]
  clear HWW
  go_wp2_with (first | ((with_reducible refine wpList_slice_run (o := ⟨some 10, .slice _ (.tmp 8) none (some (.tmp 9)) none, _, _, _, none⟩) rfl _ _ _ _ rfl _ _ _ ?_ ?_ ?_ _ S1.out ?_); (· rfl); (· rfl); (· rfl)) | ((with_reducible refine wpList_slice_run (o := ⟨some 17, .slice _ (.tmp 14) (some (.tmp 16)) none none, _, _, _, none⟩) rfl _ _ _ _ rfl _ _ _ ?_ ?_ ?_ _ T1.out ?_); (· rfl); (· rfl); (· rfl)) | (at_builtin; refine wpList_append_run rfl (.tmp 6) (.tmp 10) _ rfl _ _ _ rfl rfl P1.out ?_) | (at_builtin; refine wpList_append_run rfl (.tmp 12) (.tmp 17) _ rfl _ _ _ rfl rfl R1.out ?_))
  refine bodyPost_ret (v := .agg #[.int .u32 nx, .int .i64 most, .slice a4 n4 cap4]) (by simp [results, Try.results31, go_sem, *]) rfl ⟨_, rfl, ?_, ?_⟩
  · exact HU.out
  · exact HX.out
end Go.Proofs.Ytladpgjhifbphaa
