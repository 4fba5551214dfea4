/- The walk of the law FidsApart. -/
import Derived.Test.YtekdoannpkifaaaFid3
import Derived.Test.YtekdoannpkifaaaFidX
namespace Go.Proofs.Ytekdoannpkifaaa
open Go.ChangeShapes Go.WideShapes Go.ChangeAt Go.RowKit

/-- Two fids that came in, each in a block of its own. -/
structure Two (gx : Nat) (x y : FV) (W : World) : Prop where
  hx : W.heap[gx]? = some (.cells x.cells 39 (0, 0))
  hy : W.heap[gx + 1]? = some (.cells y.cells 39 (0, 0))
theorem Two.ext {gx : Nat} {x y : FV} {W W' : World} (h : Two gx x y W) (k : Ext W W') : Two gx x y W' := ⟨k.heap h.hx, k.heap h.hy⟩
theorem Two.upd {S : List Nat} {gx : Nat} {x y : FV} {W W' : World} (h : Two gx x y W) (k : Upd S W W') (h1 : gx ∉ S) (h2 : gx + 1 ∉ S) : Two gx x y W' := ⟨k.heap h.hx h1, k.heap h.hy h2⟩

/-- What is done, at any two numbers that differ. -/
theorem putF_app {l : List (Int × FV)} {k : Int} {u v : FV} (h : lookF l k = none) : putF (l ++ [(k, u)]) k v = l ++ [(k, v)] := by
  induction l with
  | nil => simp [putF]
  | cons p l ih =>
    unfold lookF at h
    by_cases hk : p.1 = k
    · rw [if_pos hk] at h; cases h
    · rw [if_neg hk] at h
      simp [putF, hk, ih h]
theorem delF_app {l : List (Int × FV)} {k : Int} {u : FV} (h : lookF l k = none) : delF (l ++ [(k, u)]) k = l := by
  induction l with
  | nil => simp [delF]
  | cons p l ih =>
    unfold lookF at h
    by_cases hk : p.1 = k
    · rw [if_pos hk] at h; cases h
    · rw [if_neg hk] at h
      simp [delF, hk, ih h]

theorem xor_ne (a : Int) : bits .xor .i64 a 1 ≠ a := by
  intro h
  have h1 : bits .xor .i64 a 1 = IntKind.i64.wrap ((BitVec.ofInt 64 a ^^^ BitVec.ofInt 64 1).toNat : Nat) := rfl
  rw [h1, IntKind.wrap_i64] at h
  have hlt := (BitVec.ofInt 64 a ^^^ BitVec.ofInt 64 1).isLt
  have hA : ((BitVec.ofInt 64 a).toNat : Int) = a % 18446744073709551616 := by
    rw [BitVec.toNat_ofInt]; simp; omega
  have he : (BitVec.ofInt 64 a ^^^ BitVec.ofInt 64 1).toNat = (BitVec.ofInt 64 a).toNat := by omega
  have hb : BitVec.ofInt 64 a ^^^ BitVec.ofInt 64 1 = BitVec.ofInt 64 a := BitVec.eq_of_toNat_eq he
  have hc := congrArg (fun z => BitVec.ofInt 64 a ^^^ z) hb
  simp only [← BitVec.xor_assoc, BitVec.xor_self, BitVec.zero_xor] at hc
  exact absurd hc (by decide)

set_option maxRecDepth 100000 in
set_option maxHeartbeats 4000000 in
theorem fidsApart_walk (w : World) (a : Int) (_w0 : (Lit.int .i64 a).wf = true) (b : Int) (_w1 : (Lit.int .i64 b).wf = true) (x y : FV) :
    Calls Try.prog 5 #[.int .i64 a, .int .i64 b, x.val, y.val] w fun r w' => r = .returned (.bool true) ∧ Ext w w' := by
  unfold FV.val
  by_cases hab : a = b
  · subst hab
    have hd : (a == a) = true := by simp
    have hne := xor_ne a
    generalize hb : bits .xor .i64 a 1 = b at hne
    have HL := Lib.hid (show lookF [(a, x)] b = none by simp [lookF]; exact fun e => hne e.symm)
    clear hne
    go_enter Try.func5, Try.ntmps5
    go_wp2_with fail
    refine (new_yes 5 _ (by omega) (by omega)).mono ?_
    rintro r w1 ⟨rfl, hm1, hx1⟩
    simp only [World.size_alloc] at hm1
    have M1 := Lib.hid hm1
    have X1 := Lib.hid (((Ext.refl w).alloc (.cells x.cells 39)).alloc (.cells y.cells 39) |>.trans hx1)
    have T1 := Lib.hid (Two.ext (gx := w.heap.size) (x := x) (y := y) ⟨heap_alloc2_old w _ _, heap_alloc2_new w _ _⟩ hx1)
    have hz1 : w.heap.size + 1 < w1.heap.size := lt_of_heap T1.out.hy
    clear hm1 hx1
    obtain ⟨q0, q1, q2, q3, q4, q5, q6, q7, q8, q9⟩ := blk10 T1.out.hx
    go_wp2_with fail
    clear q0 q1 q2 q3 q4 q5 q6 q7 q8 q9
    clear hb
    refine (add_ok _ _ _ _ a _ x M1.out rfl (by simp)).mono ?_
    rintro r w2 ⟨rfl, hm2, hu2⟩
    rw [List.nil_append] at hm2
    have M2 := Lib.hid hm2
    have T2 := Lib.hid (T1.out.upd hu2 (by simp; omega) (by simp))
    have X2 := Lib.hid (hu2.ext X1.out (by simp; omega))
    have hz2 : w.heap.size + 1 < w2.heap.size := lt_of_heap T2.out.hy
    clear hm2 hu2 M1 T1 X1 hz1
    obtain ⟨q0, q1, q2, q3, q4, q5, q6, q7, q8, q9⟩ := blk10 T2.out.hy
    go_wp2_with fail
    clear q0 q1 q2 q3 q4 q5 q6 q7 q8 q9
    refine (add_ok _ _ _ _ b _ y M2.out HL.out (by simp)).mono ?_
    rintro r w3 ⟨rfl, hm3, hu3⟩
    have M3 := Lib.hid hm3
    have T3 := Lib.hid (T2.out.upd hu3 (by simp; omega) (by simp))
    have X3 := Lib.hid (hu3.ext X2.out (by simp; omega))
    have hz3 : w.heap.size + 1 < w3.heap.size := lt_of_heap T3.out.hy
    clear hm3 hu3 M2 T2 X2 hz2
    obtain ⟨q0, q1, q2, q3, q4, q5, q6, q7, q8, q9⟩ := blk10 T3.out.hx
    go_wp2_with fail
    clear q0 q1 q2 q3 q4 q5 q6 q7 q8 q9
    refine (set_ok _ _ _ _ b _ x (u := y) M3.out (lookF_app_new HL.out)).mono ?_
    rintro r w4 ⟨rfl, hm4, hu4⟩
    rw [putF_app HL.out] at hm4
    have M4 := Lib.hid hm4
    have T4 := Lib.hid (T3.out.upd hu4 (by simp; omega) (by simp))
    have X4 := Lib.hid (hu4.ext X3.out (by simp; omega))
    have hz4 : w.heap.size + 1 < w4.heap.size := lt_of_heap T4.out.hy
    clear hm4 hu4 M3 T3 X3 hz3
    obtain ⟨q0, q1, q2, q3, q4, q5, q6, q7, q8, q9⟩ := blk10 T4.out.hy
    go_wp2_with fail
    clear q0 q1 q2 q3 q4 q5 q6 q7 q8 q9
    refine (set_ok _ _ _ _ b _ y (u := x) M4.out (lookF_app_new HL.out)).mono ?_
    rintro r w5 ⟨rfl, hm5, hu5⟩
    rw [putF_app HL.out] at hm5
    have M5 := Lib.hid hm5
    have T5 := Lib.hid (T4.out.upd hu5 (by simp; omega) (by simp))
    have X5 := Lib.hid (hu5.ext X4.out (by simp; omega))
    have hz5 : w.heap.size + 1 < w5.heap.size := lt_of_heap T5.out.hy
    clear hm5 hu5 M4 T4 X4 hz4
    go_wp2_with fail
    refine (drop_ok _ _ _ _ b _ (v := y) M5.out (lookF_app_new HL.out)).mono ?_
    rintro r w6 ⟨rfl, hm6, hu6⟩
    rw [delF_app HL.out] at hm6
    have M6 := Lib.hid hm6
    have T6 := Lib.hid (T5.out.upd hu6 (by simp; omega) (by simp))
    have X6 := Lib.hid (hu6.ext X5.out (by simp; omega))
    have hz6 : w.heap.size + 1 < w6.heap.size := lt_of_heap T6.out.hy
    clear hm6 hu6 M5 T5 X5 hz5
    go_wp2_with fail
    refine (drop_none _ _ _ _ b _ M6.out HL.out).mono ?_
    rintro r w7 ⟨rfl, hx7⟩
    have M7 := Lib.hid (M6.out.ext hx7)
    have T7 := Lib.hid (T6.out.ext hx7)
    have X7 := Lib.hid (X6.out.trans hx7)
    have hz7 : w.heap.size + 1 < w7.heap.size := lt_of_heap T7.out.hy
    clear hx7 M6 T6 X6 hz6
    go_wp2_with fail
    refine (get_ok _ _ _ _ a _ (v := x) M7.out (by simp [lookF])).mono ?_
    rintro r w8 ⟨rfl, hx8⟩
    have M8 := Lib.hid ((M7.out.ext hx8).ext ((Ext.refl w8).alloc (.cells x.cells 32)))
    have T8 := Lib.hid ((T7.out.ext hx8).ext ((Ext.refl w8).alloc (.cells x.cells 32)))
    have X8 := Lib.hid ((X7.out.trans hx8).alloc (.cells x.cells 32))
    have hz8 : w.heap.size + 1 < w8.heap.size := lt_of_heap (T7.out.ext hx8).hy
    have hb8 := heap_alloc_new w8 (.cells x.cells 32)
    have HB8 := Lib.hid hb8
    clear hb8
    unfold FV.val
    clear hx8 M7 T7 X7 hz7
    go_wp2_with fail
    refine (get_none _ _ _ _ b _ M8.out HL.out).mono ?_
    rintro r w9 ⟨rfl, hx9⟩
    have X9 := Lib.hid ((X8.out.trans hx9).alloc (.cells FV.zero.cells 32))
    have hB := hx9.heap HB8.out
    obtain ⟨p0, p1, p2, p3, p4, p5, p6, p7, p8, p9⟩ := blk10 hB
    have hbz := lt_of_heap hB
    obtain ⟨q0, q1, q2, q3, q4, q5, q6, q7, q8, q9⟩ := blk10 (T8.out.ext hx9).hx
    have hz9 : w.heap.size + 1 < w9.heap.size := lt_of_heap (T8.out.ext hx9).hy
    have hz0 : w.heap.size < w9.heap.size := by omega
    clear hB
    unfold FV.val FV.zero
    clear hx9 M8 T8 X8 hz8
    go_wp2_with fail
    refine (lives_any _).mono ?_
    rintro r wz ⟨rfl, hxz⟩
    go_wp2_with fail
    go_ret
    exact ⟨rfl, X9.out.trans hxz⟩
  · have hd : (a == b) = false := by simpa using hab
    have HL := Lib.hid (show lookF [(a, x)] b = none by simp [lookF, hab])
    clear hab
    go_enter Try.func5, Try.ntmps5
    go_wp2_with fail
    refine (new_yes 5 _ (by omega) (by omega)).mono ?_
    rintro r w1 ⟨rfl, hm1, hx1⟩
    simp only [World.size_alloc] at hm1
    have M1 := Lib.hid hm1
    have X1 := Lib.hid (((Ext.refl w).alloc (.cells x.cells 39)).alloc (.cells y.cells 39) |>.trans hx1)
    have T1 := Lib.hid (Two.ext (gx := w.heap.size) (x := x) (y := y) ⟨heap_alloc2_old w _ _, heap_alloc2_new w _ _⟩ hx1)
    have hz1 : w.heap.size + 1 < w1.heap.size := lt_of_heap T1.out.hy
    clear hm1 hx1
    obtain ⟨q0, q1, q2, q3, q4, q5, q6, q7, q8, q9⟩ := blk10 T1.out.hx
    go_wp2_with fail
    clear q0 q1 q2 q3 q4 q5 q6 q7 q8 q9
    refine (add_ok _ _ _ _ a _ x M1.out rfl (by simp)).mono ?_
    rintro r w2 ⟨rfl, hm2, hu2⟩
    rw [List.nil_append] at hm2
    have M2 := Lib.hid hm2
    have T2 := Lib.hid (T1.out.upd hu2 (by simp; omega) (by simp))
    have X2 := Lib.hid (hu2.ext X1.out (by simp; omega))
    have hz2 : w.heap.size + 1 < w2.heap.size := lt_of_heap T2.out.hy
    clear hm2 hu2 M1 T1 X1 hz1
    obtain ⟨q0, q1, q2, q3, q4, q5, q6, q7, q8, q9⟩ := blk10 T2.out.hy
    go_wp2_with fail
    clear q0 q1 q2 q3 q4 q5 q6 q7 q8 q9
    refine (add_ok _ _ _ _ b _ y M2.out HL.out (by simp)).mono ?_
    rintro r w3 ⟨rfl, hm3, hu3⟩
    have M3 := Lib.hid hm3
    have T3 := Lib.hid (T2.out.upd hu3 (by simp; omega) (by simp))
    have X3 := Lib.hid (hu3.ext X2.out (by simp; omega))
    have hz3 : w.heap.size + 1 < w3.heap.size := lt_of_heap T3.out.hy
    clear hm3 hu3 M2 T2 X2 hz2
    obtain ⟨q0, q1, q2, q3, q4, q5, q6, q7, q8, q9⟩ := blk10 T3.out.hx
    go_wp2_with fail
    clear q0 q1 q2 q3 q4 q5 q6 q7 q8 q9
    refine (set_ok _ _ _ _ b _ x (u := y) M3.out (lookF_app_new HL.out)).mono ?_
    rintro r w4 ⟨rfl, hm4, hu4⟩
    rw [putF_app HL.out] at hm4
    have M4 := Lib.hid hm4
    have T4 := Lib.hid (T3.out.upd hu4 (by simp; omega) (by simp))
    have X4 := Lib.hid (hu4.ext X3.out (by simp; omega))
    have hz4 : w.heap.size + 1 < w4.heap.size := lt_of_heap T4.out.hy
    clear hm4 hu4 M3 T3 X3 hz3
    obtain ⟨q0, q1, q2, q3, q4, q5, q6, q7, q8, q9⟩ := blk10 T4.out.hy
    go_wp2_with fail
    clear q0 q1 q2 q3 q4 q5 q6 q7 q8 q9
    refine (set_ok _ _ _ _ b _ y (u := x) M4.out (lookF_app_new HL.out)).mono ?_
    rintro r w5 ⟨rfl, hm5, hu5⟩
    rw [putF_app HL.out] at hm5
    have M5 := Lib.hid hm5
    have T5 := Lib.hid (T4.out.upd hu5 (by simp; omega) (by simp))
    have X5 := Lib.hid (hu5.ext X4.out (by simp; omega))
    have hz5 : w.heap.size + 1 < w5.heap.size := lt_of_heap T5.out.hy
    clear hm5 hu5 M4 T4 X4 hz4
    go_wp2_with fail
    refine (drop_ok _ _ _ _ b _ (v := y) M5.out (lookF_app_new HL.out)).mono ?_
    rintro r w6 ⟨rfl, hm6, hu6⟩
    rw [delF_app HL.out] at hm6
    have M6 := Lib.hid hm6
    have T6 := Lib.hid (T5.out.upd hu6 (by simp; omega) (by simp))
    have X6 := Lib.hid (hu6.ext X5.out (by simp; omega))
    have hz6 : w.heap.size + 1 < w6.heap.size := lt_of_heap T6.out.hy
    clear hm6 hu6 M5 T5 X5 hz5
    go_wp2_with fail
    refine (drop_none _ _ _ _ b _ M6.out HL.out).mono ?_
    rintro r w7 ⟨rfl, hx7⟩
    have M7 := Lib.hid (M6.out.ext hx7)
    have T7 := Lib.hid (T6.out.ext hx7)
    have X7 := Lib.hid (X6.out.trans hx7)
    have hz7 : w.heap.size + 1 < w7.heap.size := lt_of_heap T7.out.hy
    clear hx7 M6 T6 X6 hz6
    go_wp2_with fail
    refine (get_ok _ _ _ _ a _ (v := x) M7.out (by simp [lookF])).mono ?_
    rintro r w8 ⟨rfl, hx8⟩
    have M8 := Lib.hid ((M7.out.ext hx8).ext ((Ext.refl w8).alloc (.cells x.cells 32)))
    have T8 := Lib.hid ((T7.out.ext hx8).ext ((Ext.refl w8).alloc (.cells x.cells 32)))
    have X8 := Lib.hid ((X7.out.trans hx8).alloc (.cells x.cells 32))
    have hz8 : w.heap.size + 1 < w8.heap.size := lt_of_heap (T7.out.ext hx8).hy
    have hb8 := heap_alloc_new w8 (.cells x.cells 32)
    have HB8 := Lib.hid hb8
    clear hb8
    unfold FV.val
    clear hx8 M7 T7 X7 hz7
    go_wp2_with fail
    refine (get_none _ _ _ _ b _ M8.out HL.out).mono ?_
    rintro r w9 ⟨rfl, hx9⟩
    have X9 := Lib.hid ((X8.out.trans hx9).alloc (.cells FV.zero.cells 32))
    have hB := hx9.heap HB8.out
    obtain ⟨p0, p1, p2, p3, p4, p5, p6, p7, p8, p9⟩ := blk10 hB
    have hbz := lt_of_heap hB
    obtain ⟨q0, q1, q2, q3, q4, q5, q6, q7, q8, q9⟩ := blk10 (T8.out.ext hx9).hx
    have hz9 : w.heap.size + 1 < w9.heap.size := lt_of_heap (T8.out.ext hx9).hy
    have hz0 : w.heap.size < w9.heap.size := by omega
    clear hB
    unfold FV.val FV.zero
    clear hx9 M8 T8 X8 hz8
    go_wp2_with fail
    refine (lives_any _).mono ?_
    rintro r wz ⟨rfl, hxz⟩
    go_wp2_with fail
    go_ret
    exact ⟨rfl, X9.out.trans hxz⟩
end Go.Proofs.Ytekdoannpkifaaa
