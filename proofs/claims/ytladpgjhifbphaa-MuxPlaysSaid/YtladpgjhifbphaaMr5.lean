/- The walks of the document's Call, Match, Drop and Xid. -/
import Derived.Test.YtladpgjhifbphaaMr4
namespace Go.Proofs.Ytladpgjhifbphaa
open Go.ChangeShapes Go.WideShapes Go.ChangeAt Go.RowKit

/-- What Find tells. -/
def fnd (l : List MC) (x : Int) : Int := match lookC l x with | some _ => 1 | none => -1
theorem find_any (w : World) (base : Nat) (nx most : Int) (v : Value) (l : List MC) (h : CRow w base v l) (hl : l.length ≤ 100) (x : Int) :
    ∃ z : Int, (decide (z ≥ 0) = (lookC l x).isSome) ∧ ∀ W, Ext w W → Calls Try.prog 28 #[.agg #[.int .u32 nx, .int .i64 most, v], .int .u32 x] W fun r w' => r = .returned (.int .i64 z) ∧ Ext W w' := by
  rcases firstK (isK x) l with ⟨k, hk, h1, h2⟩ | hn
  · refine ⟨k, ?_, fun W hW => find_some W base nx most v l (h.ext hW) hl x k hk h1 h2⟩
    rw [(look_at l x k hk h1 h2).1]
    simp
  · refine ⟨-1, ?_, fun W hW => find_none W base nx most v l (h.ext hW) hl x hn⟩
    rw [look_not l x hn]
    simp

set_option maxRecDepth 100000 in
set_option maxHeartbeats 4000000 in
theorem refCall_full (w : World) (base : Nat) (nx most : Int) (v : Value) (l : List MC) (h : CRow w base v l) (p x : Int) (hf : most ≤ l.length) :
    Calls Try.prog 27 #[.agg #[.int .u32 nx, .int .i64 most, v], .int .u32 p, .int .i64 x] w fun r w' => r = .returned (.tuple #[.agg #[.int .u32 nx, .int .i64 most, v], .int .u32 0, .int .i64 5]) ∧ Ext w w' := by
  obtain ⟨a, cap, rfl, -⟩ := h.form
  clear h
  generalize l.length = n at *
  have hd : decide (most ≤ (n : Int)) = true := by simpa using hf
  go_enter Try.func27, Try.ntmps27
  go_wp2_with fail
  refine bodyPost_ret (v := .tuple #[.agg #[.int .u32 nx, .int .i64 most, .slice a n cap], .int .u32 0, .int .i64 5]) (by simp [results, Try.results27, go_sem]) rfl ⟨rfl, ?_⟩
  exact ((Ext.refl w).alloc _).alloc _
set_option maxRecDepth 100000 in
set_option maxHeartbeats 4000000 in
theorem refCall_room (w : World) (base : Nat) (nx most : Int) (v : Value) (l : List MC) (h : CRow w base v l) (hl : l.length ≤ 99) (p x : Int) (hf : l.length < most) (hn : 0 ≤ nx) (hn2 : nx < 4294967296) (j : Nat) (hj : Free l nx j) (hj2 : j < 4294967296) :
    Calls Try.prog 27 #[.agg #[.int .u32 nx, .int .i64 most, v], .int .u32 p, .int .i64 x] w fun r w' => ∃ v', r = .returned (.tuple #[.agg #[.int .u32 ((nx + j + 1) % 4294967296), .int .i64 most, v'], .int .u32 ((nx + j) % 4294967296), .int .i64 0]) ∧ CRow w' w.heap.size v' (l ++ [(⟨(nx + j) % 4294967296, p, x⟩ : MC)]) ∧ Ext w w' := by
  have H := Lib.hid h
  have HJ := Lib.hid hj
  have HF := Lib.hid (fun x => find_any w base nx most v l h (by omega) x)
  obtain ⟨a, cap, rfl, -⟩ := h.form
  obtain ⟨n, hnl⟩ : ∃ n, n = l.length := ⟨_, rfl⟩
  rw [← hnl] at H HF hf hl ⊢
  have HL := Lib.hid hnl
  have hd : decide (most ≤ (n : Int)) = false := by simp; omega
  clear h hj hnl
  go_enter Try.func27, Try.ntmps27
  go_wp2_with fail
  go_loopw [9] (fun v9 wr => ∃ i : Nat, i ≤ j ∧ v9 = .int .u32 ((nx + i) % 4294967296) ∧ Ext ((w.alloc (.cells #[.int .u32 nx, .int .i64 most, .slice a n cap] 54)).alloc (.cells #[.int .u32 0, .int .i64 0, .slice none 0 0] 54)) wr) (fun v9 _ => j - ((intOf v9 - nx) % 4294967296).toNat)
  case atStart => exact ⟨0, by omega, by simp; omega, Ext.refl _⟩
  case round =>
    obtain ⟨i, hi, rfl, hx⟩ := hrel
    have b0 := hx.heap (heap_alloc2_old w _ _)
    have b1 := hx.heap (heap_alloc2_new w _ _)
    obtain ⟨s0, s1, s2, -, -, -⟩ := blk3 b0
    have lz := lt_of_heap b1
    have HX := Lib.hid hx
    have HE := Lib.hid ((((Ext.refl w).alloc _).alloc _).trans hx)
    obtain ⟨z, hz1, hz2⟩ := HF.out ((nx + i) % 4294967296)
    have HZ := Lib.hid hz2
    have B0 := Lib.hid b0
    have B1 := Lib.hid b1
    by_cases hij : i < j
    · rw [HJ.out.taken i hij] at hz1
      have hz0 : decide ((0 : Int) ≤ z) = true := hz1
      clear hx b0 b1 hz1 hz2
      go_wp2_with fail
      refine (HZ.out _ HE.out).mono ?_
      rintro r w1 ⟨rfl, hx1⟩
      have HX1 := Lib.hid (HX.out.trans hx1)
      clear hx1
      go_wp2_with fail
      go_roundw
      case rel => exact ⟨i + 1, by omega, by simp; omega, HX1.out⟩
      case measure => simp [intOf]; omega
    · obtain rfl : i = j := by omega
      rw [HJ.out.free] at hz1
      have hz0 : decide ((0 : Int) ≤ z) = false := hz1
      clear hx b0 b1 hz1 hz2
      go_wp2_with fail
      refine (HZ.out _ HE.out).mono ?_
      rintro r w1 ⟨rfl, hx1⟩
      have hE1 := HE.out.trans hx1
      have hr1 := H.out.ext hE1
      have c0 := hx1.heap B0.out
      have c1 := hx1.heap B1.out
      obtain ⟨v2, w2, p1, p2, p3⟩ := (CRow.nil w1 w1.heap.size).app (m := l) (own_src hr1 (cCells_one l)) (by simp; rw [← HL.out]; omega) (Nat.le_refl _) 52
      rw [List.nil_append] at p2
      have hx2 := upd_nil_ext p3
      have hx3 := hx2.trans ((Ext.refl w2).alloc (.cells #[.int .u32 ((nx + i) % 4294967296), .int .u32 p, .int .i64 x] 51))
      obtain ⟨v4, w4, r1, r2, r3⟩ := (p2.ext ((Ext.refl w2).alloc (.cells #[.int .u32 ((nx + i) % 4294967296), .int .u32 p, .int .i64 x] 51))).app (m := [(⟨(nx + i) % 4294967296, p, x⟩ : MC)]) (src_new w2 3 #[.int .u32 ((nx + i) % 4294967296), .int .u32 p, .int .i64 x] 51 rfl (by simp [Value.oneCell'])) (by simp; rw [← HL.out]; omega) hx3.size 52
      have hfar : ∀ q ∈ v2.ownBlock.toList, w.heap.size + 2 ≤ q := fun q hq => by
        have h1 := (World.ownsRow.lt p2 q (by simpa using hq)).1
        have h2 := lt_of_heap c1
        omega
      have d0 := r3.heap (hx3.heap c0) (fun hm => by have := hfar _ hm; omega)
      have d1 := r3.heap (hx3.heap c1) (fun hm => by have := hfar _ hm; omega)
      obtain ⟨a2, cap2, rfl, -⟩ := p2.form
      obtain ⟨a4, cap4, rfl, -⟩ := r2.form
      have e2 := (blk3 c0).2.2.1
      obtain ⟨f0, f1, f2, f3, f4, f5⟩ := blk3 d0
      obtain ⟨g0, g1, g2, g3, g4, g5⟩ := blk3 d1
      have lz4 := lt_of_heap d1
      have lz1 := lt_of_heap c1
      have hw4 : Ext w w4 := r3.ext (hE1.trans hx3) (fun q hq => by have := hfar q hq; omega)
      rw [← HL.out] at p1 r1
      generalize hn4 : (l ++ [(⟨(nx + i) % 4294967296, p, x⟩ : MC)]).length = n4 at *
      have HU : Hid (CRow (((((w4.setCell ⟨w.heap.size, 2, none⟩ (.slice a4 n4 cap4)).setCell ⟨w.heap.size, 0, none⟩ (.int .u32 ((nx + i + 1) % 4294967296))).setCell ⟨w.heap.size + 1, 0, none⟩ (.int .u32 ((nx + i + 1) % 4294967296))).setCell ⟨w.heap.size + 1, 1, none⟩ (.int .i64 most)).setCell ⟨w.heap.size + 1, 2, none⟩ (.slice a4 n4 cap4)) w.heap.size (.slice a4 n4 cap4) (l ++ [(⟨(nx + i) % 4294967296, p, x⟩ : MC)])) :=
        Lib.hid (ownsRow_mono (ownsRow_upd r2 ((((((Upd.refl [w.heap.size, w.heap.size + 1] _).setCell _ _ (by simp)).setCell _ _ (by simp)).setCell _ _ (by simp)).setCell _ _ (by simp)).setCell _ _ (by simp)) (fun g0 e0 => by have := (World.ownsRow.lt r2 g0 e0).1; simp; omega)) (by omega))
      have HXf : Hid (Ext w (((((w4.setCell ⟨w.heap.size, 2, none⟩ (.slice a4 n4 cap4)).setCell ⟨w.heap.size, 0, none⟩ (.int .u32 ((nx + i + 1) % 4294967296))).setCell ⟨w.heap.size + 1, 0, none⟩ (.int .u32 ((nx + i + 1) % 4294967296))).setCell ⟨w.heap.size + 1, 1, none⟩ (.int .i64 most)).setCell ⟨w.heap.size + 1, 2, none⟩ (.slice a4 n4 cap4))) :=
        Lib.hid (((((((Upd.refl [w.heap.size, w.heap.size + 1] w4).setCell _ _ (by simp)).setCell _ _ (by simp)).setCell _ _ (by simp)).setCell _ _ (by simp)).setCell _ _ (by simp)).ext hw4 (by simp))
      have P1 := Lib.hid p1
      have R1 := Lib.hid r1
      clear hx1 hE1 hr1 c0 c1 p1 p2 p3 hx2 hx3 r1 r2 r3 hfar d0 d1 hw4 hn4 s0 s1 s2
      go_wp2_with (first | (at_builtin; refine wpList_append_run rfl (.tmp 26) (.tmp 28) _ rfl _ _ _ rfl rfl P1.out ?_) | (at_builtin; refine wpList_append_run rfl (.tmp 30) (.tmp 35) _ rfl _ _ _ rfl rfl R1.out ?_))
      exact bodyPost_ret (v := .tuple #[.agg #[.int .u32 ((nx + i + 1) % 4294967296), .int .i64 most, .slice a4 n4 cap4], .int .u32 ((nx + i) % 4294967296), .int .i64 0]) (by simp [results, Try.results27, go_sem, *]) rfl ⟨_, rfl, HU.out, HXf.out⟩

theorem alloc2b (w : World) (A B : Obj) {w1 : World} (hx : Ext ((w.alloc A).alloc B) w1) : w1.heap[w.heap.size]? = some A ∧ w1.heap[w.heap.size + 1]? = some B := ⟨hx.heap (heap_alloc2_old w A B), hx.heap (heap_alloc2_new w A B)⟩
set_option maxRecDepth 100000 in
set_option maxHeartbeats 4000000 in
theorem refMatch_none (w : World) (base : Nat) (nx most : Int) (v : Value) (l : List MC) (h : CRow w base v l) (hl : l.length ≤ 99) (x p : Int) (hb : ∀ j (hj : j < l.length), isK x l[j] = false) :
    Calls Try.prog 24 #[.agg #[.int .u32 nx, .int .i64 most, v], .int .u32 x, .int .u32 p] w fun r w' => r = .returned (.tuple #[.agg #[.int .u32 nx, .int .i64 most, v], .int .i64 0, .int .i64 6]) ∧ Ext w w' := by
  have HF := Lib.hid (fun W (hW : Ext w W) => find_none W base nx most v l (h.ext hW) (by omega) x hb)
  obtain ⟨a, cap, rfl, -⟩ := h.form
  clear h hb
  generalize l.length = n at *
  go_enter Try.func24, Try.ntmps24
  go_wp2_with fail
  refine (HF.out _ (((Ext.refl w).alloc _).alloc _)).mono ?_
  rintro r w1 ⟨rfl, hx⟩
  obtain ⟨b0, b1⟩ := alloc2b w _ _ hx
  obtain ⟨s0, s1, s2, -, -, -⟩ := blk3 b0
  obtain ⟨t0, t1, t2, t3, t4, t5⟩ := blk3 b1
  have lz := lt_of_heap b1
  have HX : Hid (Ext w (((w1.setCell ⟨w.heap.size + 1, 0, none⟩ (.int .u32 nx)).setCell ⟨w.heap.size + 1, 1, none⟩ (.int .i64 most)).setCell ⟨w.heap.size + 1, 2, none⟩ (.slice a n cap))) :=
    Lib.hid (((((Upd.refl [w.heap.size + 1] w1).setCell _ _ (by simp)).setCell _ _ (by simp)).setCell _ _ (by simp)).ext ((((Ext.refl w).alloc _).alloc _).trans hx) (by simp))
  clear hx b0 b1 HF
  go_wp2_with fail
  exact bodyPost_ret (v := .tuple #[.agg #[.int .u32 nx, .int .i64 most, .slice a n cap], .int .i64 0, .int .i64 6]) (by simp [results, Try.results24, go_sem, *]) rfl ⟨rfl, HX.out⟩
set_option maxRecDepth 100000 in
set_option maxHeartbeats 4000000 in
theorem refMatch_wrong (w : World) (base : Nat) (nx most : Int) (v : Value) (l : List MC) (h : CRow w base v l) (hl : l.length ≤ 99) (x p : Int) (k : Nat) (hk : k < l.length) (hh : isK x l[k] = true) (hb : ∀ j (hj : j < l.length), j < k → isK x l[j] = false) (hp : l[k].p ≠ p) :
    Calls Try.prog 24 #[.agg #[.int .u32 nx, .int .i64 most, v], .int .u32 x, .int .u32 p] w fun r w' => r = .returned (.tuple #[.agg #[.int .u32 nx, .int .i64 most, v], .int .i64 0, .int .i64 2]) ∧ Ext w w' := by
  have HF := Lib.hid (fun W (hW : Ext w W) => find_some W base nx most v l (h.ext hW) (by omega) x k hk hh hb)
  have H := Lib.hid h
  obtain ⟨a, cap, rfl, -⟩ := h.form
  have hpk : (l[k].p != p) = true := by simpa using hp
  clear h hb hh
  obtain ⟨n, hn⟩ : ∃ n, n = l.length := ⟨_, rfl⟩
  rw [← hn] at H HF hl ⊢
  have HN := Lib.hid hn
  clear hn
  go_enter Try.func24, Try.ntmps24
  go_wp2_with fail
  refine (HF.out _ (((Ext.refl w).alloc _).alloc _)).mono ?_
  rintro r w1 ⟨rfl, hx⟩
  obtain ⟨b0, b1⟩ := alloc2b w _ _ hx
  obtain ⟨a', cap', hv', hcl, hcm, hcell⟩ := (H.out.ext ((((Ext.refl w).alloc _).alloc _).trans hx)).form
  injection hv' with e1 e3 e2
  subst e1 e2
  clear e3
  obtain ⟨g, rfl, hg, -, q1, -⟩ := hcell k hk
  unfold maxLen at hcm
  clear hcell
  have hk0 : (0 : Int) ≤ (k : Int) := by omega
  have hk1 : (k : Int) < (n : Int) := by rw [HN.out]; omega
  rw [← HN.out] at hcl
  generalize l[k].p = pk at *
  obtain ⟨s0, s1, s2, -, -, -⟩ := blk3 b0
  obtain ⟨t0, t1, t2, t3, t4, t5⟩ := blk3 b1
  have lz := lt_of_heap b1
  have HX : Hid (Ext w (((w1.setCell ⟨w.heap.size + 1, 0, none⟩ (.int .u32 nx)).setCell ⟨w.heap.size + 1, 1, none⟩ (.int .i64 most)).setCell ⟨w.heap.size + 1, 2, none⟩ (.slice (some ⟨g, 0, none⟩) n cap))) :=
    Lib.hid (((((Upd.refl [w.heap.size + 1] w1).setCell _ _ (by simp)).setCell _ _ (by simp)).setCell _ _ (by simp)).ext ((((Ext.refl w).alloc _).alloc _).trans hx) (by simp))
  clear hx b0 b1 HF H hp
  go_wp2_with fail
  exact bodyPost_ret (v := .tuple #[.agg #[.int .u32 nx, .int .i64 most, .slice (some ⟨g, 0, none⟩) n cap], .int .i64 0, .int .i64 2]) (by simp [results, Try.results24, go_sem, *]) rfl ⟨rfl, HX.out⟩
theorem keep6 {o w w' : World} {p q r s : Addr} {a b c d : Value} {k : Nat} {t : TypeId} (h : w.cell? p = some a ∧ w.cell? q = some b ∧ w.cell? r = some c ∧ w.cell? s = some d ∧ (∃ x y z, w.heap[k]? = some (.cells #[x, y, z] t (0, 0))) ∧ Ext o w) (hx : Ext w w') : w'.cell? p = some a ∧ w'.cell? q = some b ∧ w'.cell? r = some c ∧ w'.cell? s = some d ∧ (∃ x y z, w'.heap[k]? = some (.cells #[x, y, z] t (0, 0))) ∧ Ext o w' := by
  obtain ⟨h1, h2, h3, h4, ⟨x, y, z, h5⟩, h6⟩ := h
  exact ⟨hx.cell h1, hx.cell h2, hx.cell h3, hx.cell h4, ⟨x, y, z, hx.heap h5⟩, h6.trans hx⟩
theorem keep6s {o w : World} {p q r s : Addr} {a b c d : Value} {k : Nat} {t : TypeId} {x1 y1 z1 : Value} (h : w.cell? p = some a ∧ w.cell? q = some b ∧ w.cell? r = some c ∧ w.cell? s = some d ∧ (∃ x y z, w.heap[k]? = some (.cells #[x, y, z] t (0, 0))) ∧ Ext o w)
    (hp : p.block ≠ k) (hq : q.block ≠ k) (hr : r.block ≠ k) (hs : s.block ≠ k) (ho : o.heap.size ≤ k) :
    (((w.setCell ⟨k, 0, none⟩ x1).setCell ⟨k, 1, none⟩ y1).setCell ⟨k, 2, none⟩ z1).cell? p = some a ∧ (((w.setCell ⟨k, 0, none⟩ x1).setCell ⟨k, 1, none⟩ y1).setCell ⟨k, 2, none⟩ z1).cell? q = some b ∧ (((w.setCell ⟨k, 0, none⟩ x1).setCell ⟨k, 1, none⟩ y1).setCell ⟨k, 2, none⟩ z1).cell? r = some c ∧ (((w.setCell ⟨k, 0, none⟩ x1).setCell ⟨k, 1, none⟩ y1).setCell ⟨k, 2, none⟩ z1).cell? s = some d ∧ (∃ x y z, (((w.setCell ⟨k, 0, none⟩ x1).setCell ⟨k, 1, none⟩ y1).setCell ⟨k, 2, none⟩ z1).heap[k]? = some (.cells #[x, y, z] t (0, 0))) ∧ Ext o (((w.setCell ⟨k, 0, none⟩ x1).setCell ⟨k, 1, none⟩ y1).setCell ⟨k, 2, none⟩ z1) := by
  obtain ⟨h1, h2, h3, h4, ⟨x, y, z, h5⟩, h6⟩ := h
  have u : Upd [k] w (((w.setCell ⟨k, 0, none⟩ x1).setCell ⟨k, 1, none⟩ y1).setCell ⟨k, 2, none⟩ z1) := (((Upd.refl [k] w).setCell _ _ (by simp)).setCell _ _ (by simp)).setCell _ _ (by simp)
  refine ⟨u.cell h1 (by simpa using hp), u.cell h2 (by simpa using hq), u.cell h3 (by simpa using hr), u.cell h4 (by simpa using hs), ⟨x1, y1, z1, ?_⟩, u.ext h6 (by simpa using ho)⟩
  rw [heap_setCell_same _ _ _ _ _ _ (heap_setCell_same _ _ _ _ _ _ (heap_setCell_same _ _ _ _ _ _ h5))]
  rfl
theorem keep3c {w w' : World} {p q r : Addr} {a b c : Value} (h : w.cell? p = some a ∧ w.cell? q = some b ∧ w.cell? r = some c) (hx : Ext w w') : w'.cell? p = some a ∧ w'.cell? q = some b ∧ w'.cell? r = some c := ⟨hx.cell h.1, hx.cell h.2.1, hx.cell h.2.2⟩
set_option maxRecDepth 100000 in
set_option maxHeartbeats 4000000 in
theorem refMatch_ok (w : World) (base : Nat) (nx most : Int) (v : Value) (l : List MC) (h : CRow w base v l) (hl : l.length ≤ 99) (x p : Int) (k : Nat) (hk : k < l.length) (hh : isK x l[k] = true) (hb : ∀ j (hj : j < l.length), j < k → isK x l[j] = false) (hp : l[k].p = p) (xx : Int) (hxx : l[k].x = xx) :
    Calls Try.prog 24 #[.agg #[.int .u32 nx, .int .i64 most, v], .int .u32 x, .int .u32 p] w fun r w' => ∃ v', r = .returned (.tuple #[.agg #[.int .u32 nx, .int .i64 most, v'], .int .i64 xx, .int .i64 0]) ∧ CRow w' w.heap.size v' (l.eraseIdx k) ∧ Ext w w' := by
  have HF := Lib.hid (fun W (hW : Ext w W) => find_some W base nx most v l (h.ext hW) (by omega) x k hk hh hb)
  have HWo := Lib.hid (fun W (hW : Ext w W) => without_any W base nx most v l (h.ext hW) (by omega) k hk)
  have H := Lib.hid h
  obtain ⟨a, cap, rfl, -⟩ := h.form
  clear h hb hh
  obtain ⟨n, hn⟩ : ∃ n, n = l.length := ⟨_, rfl⟩
  rw [← hn] at H HF HWo hl ⊢
  have HN := Lib.hid hn
  clear hn
  go_enter Try.func24, Try.ntmps24
  go_wp2_with fail
  refine (HF.out _ (((Ext.refl w).alloc _).alloc _)).mono ?_
  rintro r w1 ⟨rfl, hx⟩
  obtain ⟨b0, b1⟩ := alloc2b w _ _ hx
  have HE := Lib.hid ((((Ext.refl w).alloc _).alloc _).trans hx)
  obtain ⟨a', cap', hv', hcl, hcm, hcell⟩ := (H.out.ext HE.out).form
  injection hv' with e1 e3 e2
  subst e1 e2
  clear e3
  obtain ⟨g, rfl, hg, -, q1, q2⟩ := hcell k hk
  have HG1 := Lib.hid (show g ≠ w.heap.size + 1 from fun e => ownsRow_ne (H.out.ext HE.out) b1 (by decide) (by rw [← e]; rfl))
  rw [hp] at q1
  rw [hxx] at q2
  unfold maxLen at hcm
  clear hcell hp hxx
  have hk0 : (0 : Int) ≤ (k : Int) := by omega
  have hk1 : (k : Int) < (n : Int) := by rw [HN.out]; omega
  rw [← HN.out] at hcl
  obtain ⟨s0, s1, s2, -, -, -⟩ := blk3 b0
  have lz := lt_of_heap b1
  have B1 := Lib.hid b1
  clear hx b0 b1 HF H
  go_wp2_with fail
  have m0 : w.heap.size ≠ w.heap.size + 1 := by omega
  have m1 : g ≠ w.heap.size + 1 := HG1.out
  have m2 : w.heap.size ≤ w.heap.size + 1 := by omega
  go_region_held3 (fun w' => w'.cell? ⟨w.heap.size, 2, none⟩ = some (.slice (some ⟨g, 0, none⟩) n cap) ∧ w'.cell? ⟨w.heap.size, 0, none⟩ = some (.int .u32 nx) ∧ w'.cell? ⟨w.heap.size, 1, none⟩ = some (.int .i64 most) ∧ w'.cell? ⟨g, k * 3 + 2, none⟩ = some (.int .i64 xx) ∧ (∃ x y z, w'.heap[w.heap.size + 1]? = some (.cells #[x, y, z] 54 (0, 0))) ∧ Ext w w') (first | exact ⟨s2, s0, s1, q2, ⟨_, _, _, B1.out⟩, HE.out.drew⟩ | exact keep6 (by assumption) hx2 | exact keep6s (by assumption) m0 m0 m0 m1 m2 | assumption) (first | (go_at_call 31; refine (HWo.out _ (And.right (And.right (And.right (And.right (And.right (by assumption))))))).mono ?_; rintro e w2 ⟨v2, rfl, hC2, hx2⟩; obtain ⟨a2, c2, rfl, -⟩ := hC2.form; obtain ⟨_, _, _, hb1'⟩ := And.left (And.right (And.right (And.right (And.right (by assumption))))); have hb2 := hx2.heap hb1'; have hsz := lt_of_heap hb1'; obtain ⟨u0, u1, u2, u3, u4, u5⟩ := blk3 hb2; have lu := lt_of_heap hb2))
  have HC2 := Lib.hid hC2
  have HE2 : Hid (Ext w w2) := Lib.hid ((HE.out.drew).trans hx2)
  have HSz := Lib.hid hsz
  generalize (l.eraseIdx k).length = n2 at *
  clear hC2 hx2 hsz hb2
  go_wp2_with fail
  refine bodyPost_ret (v := .tuple #[.agg #[.int .u32 nx, .int .i64 most, .slice a2 n2 c2], .int .i64 xx, .int .i64 0]) (by simp [results, Try.results24, go_sem, *]) rfl ⟨_, rfl, ?_, ?_⟩
  · exact ownsRow_mono (ownsRow_upd HC2.out ((((Upd.refl [w.heap.size + 1] _).setCell _ _ (by simp)).setCell _ _ (by simp)).setCell _ _ (by simp)) (fun g0 e0 => by have := (World.ownsRow.lt HC2.out g0 e0).1; have := HSz.out; simp; omega)) (by have := HSz.out; omega)
  · exact ((((Upd.refl [w.heap.size + 1] w2).setCell _ _ (by simp)).setCell _ _ (by simp)).setCell _ _ (by simp)).ext HE2.out (by simp)

set_option maxRecDepth 100000 in
set_option maxHeartbeats 4000000 in
theorem refDrop_none (w : World) (base : Nat) (nx most : Int) (v : Value) (l : List MC) (h : CRow w base v l) (hl : l.length ≤ 99) (x : Int) (hb : ∀ j (hj : j < l.length), isK x l[j] = false) :
    Calls Try.prog 25 #[.agg #[.int .u32 nx, .int .i64 most, v], .int .u32 x] w fun r w' => r = .returned (.tuple #[.agg #[.int .u32 nx, .int .i64 most, v], .bool false]) ∧ Ext w w' := by
  have HF := Lib.hid (fun W (hW : Ext w W) => find_none W base nx most v l (h.ext hW) (by omega) x hb)
  obtain ⟨a, cap, rfl, -⟩ := h.form
  clear h hb
  generalize l.length = n at *
  go_enter Try.func25, Try.ntmps25
  go_wp2_with fail
  refine (HF.out _ (((Ext.refl w).alloc _).alloc _)).mono ?_
  rintro r w1 ⟨rfl, hx⟩
  obtain ⟨b0, b1⟩ := alloc2b w _ _ hx
  obtain ⟨s0, s1, s2, -, -, -⟩ := blk3 b0
  obtain ⟨t0, t1, t2, t3, t4, t5⟩ := blk3 b1
  have lz := lt_of_heap b1
  have HX : Hid (Ext w (((w1.setCell ⟨w.heap.size + 1, 0, none⟩ (.int .u32 nx)).setCell ⟨w.heap.size + 1, 1, none⟩ (.int .i64 most)).setCell ⟨w.heap.size + 1, 2, none⟩ (.slice a n cap))) :=
    Lib.hid (((((Upd.refl [w.heap.size + 1] w1).setCell _ _ (by simp)).setCell _ _ (by simp)).setCell _ _ (by simp)).ext ((((Ext.refl w).alloc _).alloc _).trans hx) (by simp))
  clear hx b0 b1 HF
  go_wp2_with fail
  exact bodyPost_ret (v := .tuple #[.agg #[.int .u32 nx, .int .i64 most, .slice a n cap], .bool false]) (by simp [results, Try.results25, go_sem, *]) rfl ⟨rfl, HX.out⟩
set_option maxRecDepth 100000 in
set_option maxHeartbeats 4000000 in
theorem refDrop_ok (w : World) (base : Nat) (nx most : Int) (v : Value) (l : List MC) (h : CRow w base v l) (hl : l.length ≤ 99) (x : Int) (k : Nat) (hk : k < l.length) (hh : isK x l[k] = true) (hb : ∀ j (hj : j < l.length), j < k → isK x l[j] = false) :
    Calls Try.prog 25 #[.agg #[.int .u32 nx, .int .i64 most, v], .int .u32 x] w fun r w' => ∃ v', r = .returned (.tuple #[.agg #[.int .u32 nx, .int .i64 most, v'], .bool true]) ∧ CRow w' w.heap.size v' (l.eraseIdx k) ∧ Ext w w' := by
  have HF := Lib.hid (fun W (hW : Ext w W) => find_some W base nx most v l (h.ext hW) (by omega) x k hk hh hb)
  have HWo := Lib.hid (fun W (hW : Ext w W) => without_any W base nx most v l (h.ext hW) (by omega) k hk)
  obtain ⟨a, cap, rfl, -⟩ := h.form
  clear h hb hh
  obtain ⟨n, hn⟩ : ∃ n, n = l.length := ⟨_, rfl⟩
  rw [← hn] at HF HWo ⊢
  clear hn
  go_enter Try.func25, Try.ntmps25
  go_wp2_with fail
  refine (HF.out _ (((Ext.refl w).alloc _).alloc _)).mono ?_
  rintro r w1 ⟨rfl, hx⟩
  obtain ⟨b0, b1⟩ := alloc2b w _ _ hx
  have HE := Lib.hid ((((Ext.refl w).alloc _).alloc _).trans hx)
  obtain ⟨s0, s1, s2, -, -, -⟩ := blk3 b0
  have lz := lt_of_heap b1
  have B1 := Lib.hid b1
  clear hx b0 b1 HF
  go_wp2_with fail
  refine (HWo.out _ HE.out).mono ?_
  rintro r w2 ⟨v2, rfl, hC2, hx2⟩
  obtain ⟨a2, c2, rfl, -⟩ := hC2.form
  have hb2 := hx2.heap B1.out
  obtain ⟨t0, t1, t2, t3, t4, t5⟩ := blk3 hb2
  have lu := lt_of_heap hb2
  have HC2 := Lib.hid hC2
  have HE2 := Lib.hid (HE.out.trans hx2)
  generalize (l.eraseIdx k).length = n2 at *
  clear hC2 hx2 hb2 s0 s1 s2
  go_wp2_with fail
  refine bodyPost_ret (v := .tuple #[.agg #[.int .u32 nx, .int .i64 most, .slice a2 n2 c2], .bool true]) (by simp [results, Try.results25, go_sem, *]) rfl ⟨_, rfl, ?_, ?_⟩
  · exact ownsRow_mono (ownsRow_upd HC2.out ((((Upd.refl [w.heap.size + 1] _).setCell _ _ (by simp)).setCell _ _ (by simp)).setCell _ _ (by simp)) (fun g0 e0 => by have := (World.ownsRow.lt HC2.out g0 e0).1; simp; omega)) (by omega)
  · exact ((((Upd.refl [w.heap.size + 1] w2).setCell _ _ (by simp)).setCell _ _ (by simp)).setCell _ _ (by simp)).ext HE2.out (by simp)
end Go.Proofs.Ytladpgjhifbphaa
