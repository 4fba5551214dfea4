/- The walk of the law RpcSame. -/
import Derived.Test.YtcnbgcoklbmdaaaRp2
import Derived.Test.YtcnbgcoklbmdaaaRpX
import Derived.Laws.StructEq
namespace Go.Proofs.Ytcnbgcoklbmdaaa
open Go.ChangeShapes Go.WideShapes Go.ChangeAt Go.RowKit

set_option maxHeartbeats 1000000 in
theorem lives_any (w : World) : Calls Try.prog 8 #[] w fun r w' => r = .returned (.bool true) ∧ Ext w w' := by
  have HW := Lib.hid (write_any false 7 3 (by omega) (by omega) none 0 0 [] (by omega) w ⟨rfl, by omega, by unfold maxLen; omega, by simp, .inl rfl⟩ (.inl ⟨rfl, rfl⟩))
  go_enter Try.func8, Try.ntmps8
  go_wp2_with fail
  refine HW.out.mono ?_
  rintro r w1 ⟨v, rfl, hO, hX⟩
  have hl : (bv (bytesM false 7 3 [])).length = 24 := rfl
  obtain ⟨g, cap, rfl, _, hg, hc1, hc2, q3, _⟩ := hO.cell (i := 3) (by rw [hl]; omega)
  obtain ⟨g', cap', hv, _, _, _, _, q23, _⟩ := hO.cell (i := 23) (by rw [hl]; omega)
  injection hv with h1 h2 h3
  injection h1 with h1
  injection h1 with h1 _ _
  subst h1
  have e3 : (bv (bytesM false 7 3 []))[3]'(by rw [hl]; omega) = .int .u8 7 := rfl
  have e23 : (bv (bytesM false 7 3 []))[23]'(by rw [hl]; omega) = .int .u8 3 := rfl
  rw [e3] at q3
  rw [e23] at q23
  rw [hl]
  have HX := Lib.hid hX
  rw [hl] at hc1
  clear hO hX e3 e23 hl h2 h3
  unfold maxLen at hc2
  go_wp2_with fail
  go_ret
  exact ⟨rfl, HX.out⟩

theorem run_eqM (m k : MV) (W : World) : (binOp .eql 24 m.val k.val).run Try.prog W = .ok (.bool (eqM m k)) W := by
  obtain ⟨r1, x1, p1, s1⟩ := m
  obtain ⟨r2, x2, p2, s2⟩ := k
  simp only [MV.val, MV.cells, eqM]
  by_cases hr : r1 = r2
  · by_cases hx : x1 = x2
    · by_cases hp : p1 = p2
      · subst hr hx hp
        go_simp
        by_cases h : s1.toList = s2.toList <;> simp [h]
      · have hd : (p1 == p2) = false := by simpa using hp
        subst hr hx
        go_simp
    · have hd : (x1 == x2) = false := by simpa using hx
      subst hr
      go_simp
  · have hd : (r1 == r2) = false := by simpa using hr
    go_simp
theorem rowOf {w w' : World} {a : Option Addr} {n c : Nat} {zs : List Int} (h : IsRow .u8 w a n c zs) (hx : Ext w w') : IsRow .u8 w' a n c zs := h.ext hx
theorem of_four (r : Bool) (x p : Int) (s : ByteArray) (hb : s.size ≤ 12) (w : World) :
    Calls Try.prog 7 #[.agg #[.bool r, .int .u32 x, .int .u32 p, .string s]] w fun e w' => ∃ a c, e = .returned (.agg #[.bool r, .int .u32 x, .int .u32 p, .slice a s.size c]) ∧ IsRow .u8 w' a s.size c (bl s) ∧ Plain a c ∧ Ext w w' :=
  of_any ⟨r, x, p, s⟩ (by show s.size ≤ 100000; omega) w
theorem same_four (r1 r2 : Bool) (x1 p1 x2 p2 : Int) (s1 s2 : ByteArray) (a b : Option Addr) (c d : Nat) (w : World) (h1 : IsRow .u8 w a s1.size c (bl s1)) (h2 : IsRow .u8 w b s2.size d (bl s2)) :
    Calls Try.prog 6 #[.agg #[.bool r1, .int .u32 x1, .int .u32 p1, .slice a s1.size c], .agg #[.bool r2, .int .u32 x2, .int .u32 p2, .slice b s2.size d]] w fun r w' => r = .returned (.bool (eqM ⟨r1, x1, p1, s1⟩ ⟨r2, x2, p2, s2⟩)) ∧ Ext w w' :=
  same_any ⟨r1, x1, p1, s1⟩ ⟨r2, x2, p2, s2⟩ a b c d w h1 h2
theorem keep9 {w w1 w2 : World} {q0 q1 q2 q3 q4 q5 q6 q7 : Addr} {v0 v1 v2 v3 v4 v5 v6 v7 : Value} (h : w1.cell? q0 = some v0 ∧ w1.cell? q1 = some v1 ∧ w1.cell? q2 = some v2 ∧ w1.cell? q3 = some v3 ∧ w1.cell? q4 = some v4 ∧ w1.cell? q5 = some v5 ∧ w1.cell? q6 = some v6 ∧ w1.cell? q7 = some v7 ∧ Ext w w1) (hx : Ext w1 w2) :
    w2.cell? q0 = some v0 ∧ w2.cell? q1 = some v1 ∧ w2.cell? q2 = some v2 ∧ w2.cell? q3 = some v3 ∧ w2.cell? q4 = some v4 ∧ w2.cell? q5 = some v5 ∧ w2.cell? q6 = some v6 ∧ w2.cell? q7 = some v7 ∧ Ext w w2 := by
  obtain ⟨h0, h1, h2, h3, h4, h5, h6, h7, h8⟩ := h
  exact ⟨hx.cell h0, hx.cell h1, hx.cell h2, hx.cell h3, hx.cell h4, hx.cell h5, hx.cell h6, hx.cell h7, h8.trans hx⟩
theorem keepE {w w1 : World} {q0 q1 q2 q3 q4 q5 q6 q7 : Addr} {v0 v1 v2 v3 v4 v5 v6 v7 : Value} (h : w1.cell? q0 = some v0 ∧ w1.cell? q1 = some v1 ∧ w1.cell? q2 = some v2 ∧ w1.cell? q3 = some v3 ∧ w1.cell? q4 = some v4 ∧ w1.cell? q5 = some v5 ∧ w1.cell? q6 = some v6 ∧ w1.cell? q7 = some v7 ∧ Ext w w1) : Ext w w1 := h.2.2.2.2.2.2.2.2
def MV.short (m : MV) (k : Nat) : MV := { m with body := m.body.extract 0 (min m.body.size k) }

set_option maxRecDepth 100000 in
set_option maxHeartbeats 4000000 in
theorem rpcSame_walk (w : World) (a : MV) (ha : a.Ok) (b : MV) (hb : b.Ok) :
    Calls Try.prog 3 #[a.val, b.val] w fun r w' => r = .returned (.bool true) ∧ Ext w w' := by
  obtain ⟨r1, x1, p1, s1⟩ := a
  obtain ⟨r2, x2, p2, s2⟩ := b
  have HS1 := Lib.hid (short_any s1 ha.b 12 (by omega))
  have HS2 := Lib.hid (short_any s2 hb.b 12 (by omega))
  have hz1 : (s1.extract 0 (min s1.size 12)).size ≤ 12 := by rw [ByteArray.size_extract]; omega
  have hz2 : (s2.extract 0 (min s2.size 12)).size ≤ 12 := by rw [ByteArray.size_extract]; omega
  generalize s1.extract 0 (min s1.size 12) = t1 at *
  generalize s2.extract 0 (min s2.size 12) = t2 at *
  simp only [MV.val, MV.cells] at *
  clear ha hb
  go_enter Try.func3, Try.ntmps3
  go_wp2_with fail
  refine (HS1.out _).mono ?_
  rintro r wb ⟨rfl, rfl⟩
  go_wp2_with fail
  refine (HS2.out _).mono ?_
  rintro r wb ⟨rfl, rfl⟩
  go_wp2_with fail
  obtain ⟨ms, hms⟩ : ∃ ms : Nat → MV, ms = fun i => [MV.mk r1 x1 p1 t1, MV.mk r2 x2 p2 t2, MV.mk r2 x1 p1 t1, MV.mk r1 x2 p1 t1, MV.mk r1 x1 p2 t1, MV.mk r1 x1 p1 t2].getD i (MV.mk r1 x1 p1 t1) := ⟨_, rfl⟩
  obtain ⟨W, hW⟩ : ∃ W, W = ((((((w.alloc (.cells #[.bool r1, .int .u32 x1, .int .u32 p1, .string t1] 24)).alloc (.cells #[.bool r2, .int .u32 x2, .int .u32 p2, .string t2] 24)).alloc (.cells #[.bool r2, .int .u32 x1, .int .u32 p1, .string t1] 24)).alloc (.cells #[.bool r1, .int .u32 x2, .int .u32 p1, .string t1] 24)).alloc (.cells #[.bool r1, .int .u32 x1, .int .u32 p2, .string t1] 24)).alloc (.cells #[.bool r1, .int .u32 x1, .int .u32 p1, .string t2] 24)).alloc
     (.cells #[.bool r1, .int .u32 x1, .int .u32 p1, .string t1, .bool r2, .int .u32 x2, .int .u32 p2, .string t2, .bool r2, .int .u32 x1, .int .u32 p1, .string t1, .bool r1, .int .u32 x2, .int .u32 p1, .string t1, .bool r1, .int .u32 x1, .int .u32 p2, .string t1, .bool r1, .int .u32 x1, .int .u32 p1, .string t2] 24) := ⟨_, rfl⟩
  obtain ⟨G, hG⟩ : ∃ G, G = w.heap.size + 1 + 1 + 1 + 1 + 1 + 1 := ⟨_, rfl⟩
  have hX : Ext w W := by rw [hW]; exact (((((((Ext.refl w).alloc _).alloc _).alloc _).alloc _).alloc _).alloc _).alloc _
  have hGb : W.heap[G]? = some (.cells #[.bool r1, .int .u32 x1, .int .u32 p1, .string t1, .bool r2, .int .u32 x2, .int .u32 p2, .string t2, .bool r2, .int .u32 x1, .int .u32 p1, .string t1, .bool r1, .int .u32 x2, .int .u32 p1, .string t1, .bool r1, .int .u32 x1, .int .u32 p2, .string t1, .bool r1, .int .u32 x1, .int .u32 p1, .string t2] 24 (0, 0)) := by
    rw [hW, hG]
    have := heap_alloc_new ((((((w.alloc (.cells #[.bool r1, .int .u32 x1, .int .u32 p1, .string t1] 24)).alloc (.cells #[.bool r2, .int .u32 x2, .int .u32 p2, .string t2] 24)).alloc (.cells #[.bool r2, .int .u32 x1, .int .u32 p1, .string t1] 24)).alloc (.cells #[.bool r1, .int .u32 x2, .int .u32 p1, .string t1] 24)).alloc (.cells #[.bool r1, .int .u32 x1, .int .u32 p2, .string t1] 24)).alloc (.cells #[.bool r1, .int .u32 x1, .int .u32 p1, .string t2] 24))
    simp only [World.size_alloc] at this
    exact this _
  have HC := Lib.hid (show ∀ i, i < 6 → W.cell? ⟨G, i * 4, none⟩ = some (.bool (ms i).reply) ∧ W.cell? ⟨G, i * 4 + 1, none⟩ = some (.int .u32 (ms i).xid) ∧ W.cell? ⟨G, i * 4 + 2, none⟩ = some (.int .u32 (ms i).proc) ∧ W.cell? ⟨G, i * 4 + 3, none⟩ = some (.string (ms i).body) from fun i hi => by
    rw [cell_of hGb, cell_of hGb, cell_of hGb, cell_of hGb, hms]
    match i, hi with
    | 0, _ | 1, _ | 2, _ | 3, _ | 4, _ | 5, _ => exact ⟨rfl, rfl, rfl, rfl⟩)
  have HMB := Lib.hid (show ∀ i, (ms i).body.size ≤ 12 from fun i => by
    rw [hms]
    match i with
    | 0 | 2 | 3 | 4 => exact hz1
    | 1 | 5 => exact hz2
    | j + 6 => exact hz1)
  have HX := Lib.hid hX
  have hgl := lt_of_heap hGb
  rw [← hW, ← hG]
  clear hW hG hX hGb hms hz1 hz2
  go_loopw [10] (fun v10 wr => ∃ i : Nat, i ≤ 6 ∧ v10 = .int .i64 i ∧ Ext W wr) (fun v10 _ => 6 - (intOf v10).toNat)
  case atStart => exact ⟨0, by omega, rfl, Ext.refl _⟩
  case round =>
    obtain ⟨i, hi, rfl, hXr⟩ := hrel
    have HXr := Lib.hid hXr
    clear hXr
    by_cases hlt : i < 6
    · have hd : decide ((i : Int) < 6) = true := by simp; omega
      obtain ⟨wo, rfl⟩ : ∃ wo : World, wo = wr := ⟨_, rfl⟩
      go_wp2_with fail
      go_loopw [11] (fun v11 wr => ∃ k : Nat, k ≤ 6 ∧ v11 = .int .i64 k ∧ Ext wo wr) (fun v11 _ => 6 - (intOf v11).toNat)
      case atStart => exact ⟨0, by omega, rfl, Ext.refl _⟩
      case round =>
        obtain ⟨k, hk, rfl, hXk⟩ := hrel
        have HXk := Lib.hid (HXr.out.trans hXk)
        have HXo := Lib.hid hXk
        clear hXk
        by_cases hkt : k < 6
        · have hdk : decide ((k : Int) < 6) = true := by simp; omega
          have hi0 : (0 : Int) ≤ (i : Int) := by omega
          have hi1 : (i : Int) < 6 := by omega
          have hk0 : (0 : Int) ≤ (k : Int) := by omega
          have hk1 : (k : Int) < 6 := by omega
          have hgw : G < wr.heap.size := Nat.lt_of_lt_of_le hgl HXk.out.size
          obtain ⟨i0, i1, i2, i3⟩ := HC.out i hlt
          obtain ⟨k0, k1, k2, k3⟩ := HC.out k hkt
          have a0 := HXk.out.cell i0
          have a1 := HXk.out.cell i1
          have a2 := HXk.out.cell i2
          have a3 := HXk.out.cell i3
          have b0 := HXk.out.cell k0
          have b1 := HXk.out.cell k1
          have b2 := HXk.out.cell k2
          have b3 := HXk.out.cell k3
          clear i0 i1 i2 i3 k0 k1 k2 k3
          have hs1 := HMB.out i
          have hs2 := HMB.out k
          generalize ms i = m1 at *
          generalize ms k = m2 at *
          obtain ⟨r1, x1, p1, t1⟩ := m1
          obtain ⟨r2, x2, p2, t2⟩ := m2
          simp only at a0 a1 a2 a3 b0 b1 b2 b3 hs1 hs2
          have heq := run_eqM ⟨r1, x1, p1, t1⟩ ⟨r2, x2, p2, t2⟩
          simp only [MV.val, MV.cells] at heq
          go_wp2_with fail
          go_region_held3 (fun w' => w'.cell? ⟨G, i * 4, none⟩ = some (.bool r1) ∧ w'.cell? ⟨G, i * 4 + 1, none⟩ = some (.int .u32 x1) ∧ w'.cell? ⟨G, i * 4 + 2, none⟩ = some (.int .u32 p1) ∧ w'.cell? ⟨G, i * 4 + 3, none⟩ = some (.string t1) ∧
              w'.cell? ⟨G, k * 4, none⟩ = some (.bool r2) ∧ w'.cell? ⟨G, k * 4 + 1, none⟩ = some (.int .u32 x2) ∧ w'.cell? ⟨G, k * 4 + 2, none⟩ = some (.int .u32 p2) ∧ w'.cell? ⟨G, k * 4 + 3, none⟩ = some (.string t2) ∧ Ext wr w')
            (first | exact ⟨a0, a1, a2, a3, b0, b1, b2, b3, drew_ext wr⟩ | exact keep9 (by assumption) hx)
            (first | (go_at_call 7; refine (of_four _ _ _ _ (by omega) _).mono ?_; rintro e w' ⟨a', c', rfl, hrow, _, hx⟩; have hrf := Ext.refl w') | (go_at_call 6; refine (same_four _ _ _ _ _ _ _ _ _ _ _ _ _ (rowOf (by assumption) (by assumption)) (rowOf (by assumption) (by assumption))).mono ?_; rintro e w' ⟨rfl, hx⟩))
          have hxe : Ext wr w' := keepE (q0 := ⟨G, i * 4, none⟩) (q1 := ⟨G, i * 4 + 1, none⟩) (q2 := ⟨G, i * 4 + 2, none⟩) (q3 := ⟨G, i * 4 + 3, none⟩) (q4 := ⟨G, k * 4, none⟩) (q5 := ⟨G, k * 4 + 1, none⟩) (q6 := ⟨G, k * 4 + 2, none⟩) (q7 := ⟨G, k * 4 + 3, none⟩) (by assumption)
          have HXE := Lib.hid (HXo.out.trans hxe)
          clear hxe hx
          go_wp2_with fail
          go_roundw
          case rel => exact ⟨k + 1, by omega, by go_num, HXE.out⟩
          case measure => simp [intOf]; omega
        · have hdk : decide ((k : Int) < 6) = false := by simp; omega
          go_wp2_with fail
          go_roundw
          case rel => exact ⟨i + 1, by omega, by go_num, HXk.out⟩
          case measure => simp [intOf]; omega
    · have hd : decide ((i : Int) < 6) = false := by simp; omega
      go_wp2_with fail
      refine (lives_any _).mono ?_
      rintro r w7 ⟨rfl, hx7⟩
      go_wp2_with fail
      go_ret
      exact ⟨rfl, HX.out.trans (HXr.out.trans hx7)⟩
end Go.Proofs.Ytcnbgcoklbmdaaa
