/- The walk of the law RpcReads. -/
import Derived.Test.YtcnbgcoklbmdaaaDoorRc3
import Derived.Test.YtcnbgcoklbmdaaaDoorByF
namespace Go.Proofs.YtcnbgcoklbmdaaaDoor
open Go.ChangeShapes Go.WideShapes Go.ChangeAt Go.RowKit

/-- Bytes that are read, as their own number in a row of rows. -/
structure ByteRow (W : World) (a : Option Addr) (n c : Nat) (zs : List Int) : Prop where
  row : IsRow .u8 W a n c zs
  pl : Plain a c
  le : n ≤ 100
theorem ByteRow.ext {W W' : World} {a : Option Addr} {n c : Nat} {zs : List Int} (h : ByteRow W a n c zs) (hx : Ext W W') : ByteRow W' a n c zs := ⟨h.row.ext hx, h.pl, h.le⟩

/-- What is wrong is one of two things. -/
def Wrong (f : Option (Int × Int)) : Prop := ∀ n q, f = some (n, q) → n = 2 ∨ n = 3
theorem stepN_wrong {l zs : List Int} {k : Nat} {f : Option (Int × Int)} (h : Wrong f) : Wrong (stepN l zs k f).2.2.2 := by
  unfold stepN
  split
  · exact h
  · split
    · intro n q e; injection e with e; injection e with e _; exact .inr e.symm
    · split
      · intro n q e; cases e
      · intro n q e; injection e with e; injection e with e _; exact .inl e.symm
theorem rdAll_wrong (zs : List Int) : Wrong (rdAll zs).2.2.2.2 := by
  have h0 : Wrong none := fun _ _ e => by cases e
  have h2 := stepN_wrong (l := [0, 1]) (zs := (stepN [] zs 0 none).2.1) (k := (stepN [] zs 0 none).2.2.1) (stepN_wrong (l := []) (zs := zs) (k := 0) h0)
  rw [rdAll_eq]
  unfold rd2
  split
  · exact stepN_wrong (stepN_wrong h2)
  · exact stepN_wrong (stepN_wrong (stepN_wrong (stepN_wrong h2)))
theorem run_neqM (m : MV) (W : World) : (binOp .neq 25 m.val m.val).run Tryd.prog W = .ok (.bool false) W := by
  obtain ⟨r1, x1, p1, s1⟩ := m
  simp only [MV.val, MV.cells]
  go_simp
theorem keep10 {w1 w2 : World} {q0 q1 q2 q3 q4 q5 q6 q7 q8 q9 : Addr} {v0 v1 v2 v3 v4 v5 v6 v7 v8 v9 : Value} (h : w1.cell? q0 = some v0 ∧ w1.cell? q1 = some v1 ∧ w1.cell? q2 = some v2 ∧ w1.cell? q3 = some v3 ∧ w1.cell? q4 = some v4 ∧ w1.cell? q5 = some v5 ∧ w1.cell? q6 = some v6 ∧ w1.cell? q7 = some v7 ∧ w1.cell? q8 = some v8 ∧ w1.cell? q9 = some v9) (hx : Ext w1 w2) :
    w2.cell? q0 = some v0 ∧ w2.cell? q1 = some v1 ∧ w2.cell? q2 = some v2 ∧ w2.cell? q3 = some v3 ∧ w2.cell? q4 = some v4 ∧ w2.cell? q5 = some v5 ∧ w2.cell? q6 = some v6 ∧ w2.cell? q7 = some v7 ∧ w2.cell? q8 = some v8 ∧ w2.cell? q9 = some v9 := by
  obtain ⟨h0, h1, h2, h3, h4, h5, h6, h7, h8, h9⟩ := h
  exact ⟨hx.cell h0, hx.cell h1, hx.cell h2, hx.cell h3, hx.cell h4, hx.cell h5, hx.cell h6, hx.cell h7, hx.cell h8, hx.cell h9⟩
/-- A store into a row of the call's own. -/
theorem Owns.store {w : World} {base : Nat} {e : TypeId} {g n c : Nat} {xs : List Value} (h : Owns w base e (.slice (some ⟨g, 0, none⟩) n c) xs) {i : Nat} (hi : i < xs.length) (x : Value) : Owns (w.setCell ⟨g, i, none⟩ x) base e (.slice (some ⟨g, 0, none⟩) n c) (xs.set i x) := by
  rcases h.form with ⟨hv, _⟩ | ⟨g', cap, cur, hv, hb, hn, hm, hg, hs, ht⟩
  · cases hv
  · injection hv with h1 h2 h3
    injection h1 with h1
    injection h1 with h1 _ _
    subst h1 h2 h3
    refine ⟨by omega, .inr ⟨g, c, cur.setIfInBounds i x, by simp, hb, heap_setCell_same w g i cur e x hg, by simpa using hn, hm, by simpa using hs, ?_⟩⟩
    rw [List.length_set, Nat.mul_one]
    apply List.ext_getElem?
    intro j
    have hj := congrArg (·[j]?) ht
    simp only [List.getElem?_take] at hj ⊢
    simp only [Array.toList_setIfInBounds, List.getElem?_set]
    rw [← hj]
    by_cases hji : i = j
    · subst hji
      simp [hi]
      omega
    · simp [hji]
theorem moreB {w : World} {base : Nat} {v : Value} {l : List Int} (h : Owns w base 5 v (bv l)) (x : Int) (hl : l.length ≤ 1000) (hb : base ≤ w.heap.size) :
    ∃ v' w', (Builtin.append_ #[22, 22] 22 #[v, .slice (some ⟨w.heap.size, 0, none⟩) 1 1]).run Tryd.prog (w.alloc (.cells #[.int .u8 x] 5)) = .ok v' w' ∧ Owns w' base 5 v' (bv (l ++ [x])) ∧ ∀ o, o.heap.size ≤ base → Ext o w → Ext o w' := by
  have e : (bv l).length = l.length := bv_len l
  obtain ⟨v', w', h1, h2, h3, _⟩ := h.append1 (P := Tryd.prog) (t := 22) (ty := 22) (.int .u8 0) 1 Tryd.underlying22 infoU8 rfl (.int .u8 x) rfl (by unfold maxLen; omega) (by omega) hb
  exact ⟨v', w', h1, by simpa [bv] using h2, fun o ho hx => grown_ext h3 (hx.alloc _) (fun g hg => by have := (h.lt hg).1; omega)⟩

set_option maxRecDepth 100000 in
set_option maxHeartbeats 4000000 in
theorem rpcReads_walk (w : World) (a : Option Addr) (n c : Nat) (zs : List Int) (h : IsRow .u8 w a n c zs) (ha : a = none → c = 0) (m : MV) (hm : m.Ok) (at_ : Int) (w2 : (Lit.int .i64 at_).wf = true) (ch : Int) (w3 : (Lit.int .u8 ch).wf = true) :
    Calls Tryd.prog 3 #[.slice a n c, m.val, .int .i64 at_, .int .u8 ch] w fun r w' => r = .returned (.bool true) ∧ Ext w w' := by
  obtain ⟨r, x, p, s⟩ := m
  obtain ⟨hx0, hx1, hp0, hp1, hb⟩ := hm
  simp only at hx0 hx1 hp0 hp1 hb
  have HS := Lib.hid (short_any s hb 12 (by omega))
  have hz : (s.extract 0 (min s.size 12)).size ≤ 12 := by rw [ByteArray.size_extract]; omega
  generalize s.extract 0 (min s.size 12) = t at *
  have HBy := Lib.hid (fun W => refBytes_any r x p ⟨hx0, hx1⟩ ⟨hp0, hp1⟩ t (by omega) W)
  have hwf : ∀ z ∈ bytesM r x p (bl t), (Lit.int .u8 z).wf = true := by
    intro z hz
    unfold bytesM at hz
    rcases List.mem_append.1 hz with h | h
    · exact nums_wf (heads_bd ⟨hx0, hx1⟩ ⟨hp0, hp1⟩) z h
    · exact bl_wf t z h
  have hlen : (bytesM r x p (bl t)).length ≤ 36 ∧ 16 ≤ (bytesM r x p (bl t)).length := by
    unfold bytesM
    rw [List.length_append, nums_len, bl_len]
    cases r <;> simp [heads] <;> omega
  have HWF := Lib.hid hwf
  clear hwf
  generalize bytesM r x p (bl t) = ys at *
  obtain ⟨k, hk, har⟩ := around_nat at_ ys.length (by omega) w2
  have HAr := Lib.hid har
  have H := Lib.hid h
  have HA := Lib.hid ha
  have HW3 := Lib.hid w3
  have h60 : ys.take 60 = ys := List.take_of_length_le (by omega)
  have H60 := Lib.hid h60
  clear har h ha w3 h60 w2
  simp only [MV.val, MV.cells]
  go_enter Tryd.func3, Tryd.ntmps3
  go_wp2_with fail
  refine (HS.out _).mono ?_
  rintro e wb ⟨rfl, rfl⟩
  go_wp2_with fail
  refine (HBy.out _).mono ?_
  rintro e w2 ⟨v2, rfl, hO2, hX2⟩
  obtain ⟨a2, c2, rfl, hR2, hP2⟩ := hO2.row2 HWF.out
  have hc2 := hR2.2.2.1
  have hl2 := hR2.2.1
  unfold maxLen at hc2
  have HX2 := Lib.hid (((Ext.refl w).alloc _).trans hX2)
  have HR2 := Lib.hid (show ByteRow w2 a2 ys.length c2 ys from ⟨hR2, hP2, by omega⟩)
  have HF := Lib.hid (fun W (hW : Ext w2 W) => few_any a2 ys.length c2 ys 60 (by omega) W (hR2.ext hW) hP2.nil0)
  rw [H60.out] at HF
  clear hO2 hX2 hR2 hP2
  go_wp2_with fail
  refine (HAr.out _).mono ?_
  rintro e wb ⟨rfl, rfl⟩
  go_wp2_with fail
  refine (HF.out _ (Ext.refl _)).mono ?_
  rintro e w3 ⟨v3, rfl, hO3, hX3⟩
  obtain ⟨g3, c3, rfl, hb3, hg3, hc31, hc32, q3, f3⟩ := hO3.cell (i := k) (by rw [bv_len]; exact hk)
  rw [bv_len] at hc31
  unfold maxLen at hc32
  have hk0 : (0 : Int) ≤ (k : Int) := by omega
  have hk1 : (k : Int) < (ys.length : Int) := by omega
  have hso := hO3.store (i := k) (by rw [bv_len]; exact hk) (.int .u8 ch)
  have hx4 : Ext w2 (w3.setCell ⟨g3, k, none⟩ (.int .u8 ch)) := ((Upd.refl [g3] w3).setCell _ _ (by simp)).ext hX3 (by simpa using hb3)
  have hbs : (bv ys).set k (.int .u8 ch) = bv (ys.set k ch) := by simp [bv, List.map_set]
  rw [hbs] at hso
  rw [bv_len] at hso
  rw [bv_len]
  have HO4 := Lib.hid hso
  have HX4 := Lib.hid hx4
  have hq3 : w3.cell? ⟨g3, k, none⟩ = some ((bv ys)[k]'(by rw [bv_len]; exact hk)) := q3
  generalize (bv ys)[k]'(by rw [bv_len]; exact hk) = old at *
  clear hO3 hX3 hso hx4 hbs q3
  go_wp2_with fail
  refine (HF.out _ HX4.out).mono ?_
  rintro e w5 ⟨v5, rfl, hO5, hX5⟩
  obtain ⟨v6, w6, p1, p2, p3⟩ := moreB hO5 ch (by omega) hX5.size
  have P1 := Lib.hid p1
  have P2 := Lib.hid p2
  have HX6 := Lib.hid (p3 _ (Nat.le_refl _) hX5)
  clear hO5 hX5 p1 p2 p3
  go_wp2_with (at_builtin; refine wpList_append_run rfl (.tmp 35) (.tmp 37) _ rfl _ _ _ ?_ ?_ P1.out ?_)
  · rfl
  · rfl
  obtain ⟨g2, o2, rfl⟩ : ∃ g o, a2 = some ⟨g, o, none⟩ := by
    rcases HR2.out.row.2.2.2.2 with h0 | ⟨g, o, h0, _⟩
    · omega
    · exact ⟨g, o, h0⟩
  have HFb := Lib.hid (fun W (hW : Ext w6 W) => few_any a n c zs 60 (by omega) W (H.out.ext (HX2.out.trans (HX4.out.trans (HX6.out.trans hW)))) HA.out)
  have hzb : ∀ z ∈ zs.take 60, (Lit.int .u8 z).wf = true := fun z hz => H.out.2.2.2.1 z (List.mem_of_mem_take hz)
  have hzl : (zs.take 60).length ≤ 60 := by rw [List.length_take]; omega
  have HZB := Lib.hid hzb
  clear hzb
  generalize zs.take 60 = bs at *
  have hkc : k ≤ c2 := by omega
  have hkc' : (k : Int) ≤ (c2 : Int) := by omega
  obtain ⟨a6, c6, rfl, hR6, hP6⟩ := P2.out.row2 (by
    intro z hz
    rcases List.mem_append.1 hz with h | h
    · exact HWF.out z h
    · rw [List.mem_singleton.1 h]; exact HW3.out)
  have HR6 := Lib.hid (show ByteRow w6 a6 (ys ++ [ch]).length c6 (ys ++ [ch]) from ⟨hR6, hP6, by rw [List.length_append]; simp; omega⟩)
  clear hR6 hP6
  generalize hl6 : (ys ++ [ch]).length = l6 at *
  clear hl6
  have HX26 := Lib.hid (HX4.out.trans HX6.out)
  have HR4 := Lib.hid (show ByteRow w6 (some ⟨g3, 0, none⟩) ys.length c3 (ys.set k ch) from by
    obtain ⟨a4, c4, hv4, hR4, hP4⟩ := HO4.out.row2 (fun z hz => by
      rcases List.mem_or_eq_of_mem_set hz with h | h
      · exact HWF.out z h
      · rw [h]; exact HW3.out)
    rw [List.length_set] at hv4 hR4
    injection hv4 with e1 e2 e3
    subst e1 e3
    exact ⟨hR4.ext HX6.out, hP4, by omega⟩)
  go_upto_region 7 with (fail)
  go_cut [13] (fun s13 wx => ∃ G, s13 = .slice (some ⟨G, 0, none⟩) 5 5 ∧ G < wx.heap.size ∧ Ext w2 wx ∧ Ext w wx ∧ ∀ i, i < 5 → ∃ ai ni ci li, wx.cell? ⟨G, i, none⟩ = some (.slice ai ni ci) ∧ ByteRow wx ai ni ci li)
  case first =>
    go_region_with (go_at_call 9; refine (HFb.out _ ((Ext.refl w6).drew)).mono ?_; rintro e w7 ⟨v7, rfl, hO7, hX7⟩; obtain ⟨a7, c7, rfl, hR7, hP7⟩ := hO7.row2 HZB.out)
    all_goals
      go_wp2_with fail
      go_meet
      have hx67 : Ext w6 w7 := ((Ext.refl w6).drew).trans hX7
      have hx8 : Ext w6 (w7.alloc (.cells #[.slice a7 bs.length c7, .slice (some ⟨g2, o2, none⟩) ys.length c2, .slice (some ⟨g3, 0, none⟩) ys.length c3, .slice (some ⟨g2, o2, none⟩) k c2, .slice a6 l6 c6] 22)) := hx67.alloc _
      have hg := heap_alloc_new w7 (.cells #[.slice a7 bs.length c7, .slice (some ⟨g2, o2, none⟩) ys.length c2, .slice (some ⟨g3, 0, none⟩) ys.length c3, .slice (some ⟨g2, o2, none⟩) k c2, .slice a6 l6 c6] 22)
      refine ⟨w7.heap.size, rfl, by simp, HX26.out.trans hx8, HX2.out.trans (HX26.out.trans hx8), fun i hi => ?_⟩
      match i, hi with
      | 0, _ => exact ⟨a7, bs.length, c7, bs, cell_of hg 0, ⟨hR7.ext ((Ext.refl w7).alloc _), hP7, by omega⟩⟩
      | 1, _ => exact ⟨some ⟨g2, o2, none⟩, ys.length, c2, ys, cell_of hg 1, HR2.out.ext (HX26.out.trans hx8)⟩
      | 2, _ => exact ⟨some ⟨g3, 0, none⟩, ys.length, c3, ys.set k ch, cell_of hg 2, HR4.out.ext hx8⟩
      | 3, _ => exact ⟨some ⟨g2, o2, none⟩, k, c2, ys.take k, cell_of hg 3, ⟨((HR2.out.row.head (by omega)).ext (HX26.out.trans hx8)), HR2.out.pl, by omega⟩⟩
      | 4, _ => exact ⟨a6, l6, c6, ys ++ [ch], cell_of hg 4, HR6.out.ext hx8⟩
  case rest =>
    obtain ⟨G, rfl, hG, hX2c, hXc, hall⟩ := hcut
    have HAll := Lib.hid hall
    have HXc := Lib.hid hXc
    clear hall hXc hX2c
    go_wp2_with fail
    go_loopw [14] (fun v14 wr => ∃ i : Nat, i ≤ 5 ∧ v14 = .int .i64 i ∧ Ext wc wr) (fun v14 _ => 5 - (intOf v14).toNat)
    case atStart => exact ⟨0, by omega, rfl, Ext.refl _⟩
    case round =>
      obtain ⟨i, hi, rfl, hXr⟩ := hrel
      have HXr := Lib.hid hXr
      clear hXr
      by_cases hlt : i < 5
      · have hd : decide ((i : Int) < 5) = true := by simp; omega
        have hi0 : (0 : Int) ≤ (i : Int) := by omega
        have hi1 : (i : Int) < 5 := by omega
        obtain ⟨ai, ni, ci, li, q0, qB⟩ := HAll.out i hlt
        have q := HXr.out.cell q0
        have hgr : G < wr.heap.size := Nat.lt_of_lt_of_le hG HXr.out.size
        have HB := Lib.hid (qB.ext HXr.out)
        have HRd := Lib.hid (readM_any ai ni ci li (by have := qB.le; omega) wr HB.out.row HB.out.pl)
        have HRf := Lib.hid (fun W (hW : Ext wr W) => refRead_any ai ni ci li (by have := qB.le; omega) W (HB.out.row.ext hW) HB.out.pl)
        clear q0 qB
        go_wp2_with fail
        refine HRd.out.mono ?_
        rintro e w8 ⟨hIs, hX8⟩
        have HWr := Lib.hid (rdAll_wrong li)
        generalize rdAll li = R at *
        obtain ⟨rb, rx, rp, rk, rf⟩ := R
        cases rf with
        | some pf =>
          obtain ⟨nf, qf⟩ := pf
          obtain ⟨gf, rfl, hgf⟩ := hIs
          have hnf : nf ≠ 0 := by rcases HWr.out nf qf rfl with h | h <;> omega
          have hnf0 : (nf == 0) = false := by simpa using hnf
          have HGF := Lib.hid hgf
          have HRow := Lib.hid (show ∀ W, IsRow .u8 W none 0 0 [] from fun W => ⟨rfl, by omega, by unfold maxLen; omega, by simp, .inl rfl⟩)
          have HAs := Lib.hid (fun W (_ : Ext w8 W) => as_any false 0 0 none 0 0 [] W (HRow.out W))
          rw [show strOfNums [] = ⟨#[]⟩ from rfl] at HAs
          clear hgf hnf
          have HX8 := Lib.hid hX8
          have q8 := (hX8.trans ((Ext.refl w8).alloc (.cells #[.bool false, .int .u32 0, .int .u32 0, .slice none 0 0] 32))).cell q
          have hg8 : G < w8.heap.size := Nat.lt_of_lt_of_le hgr hX8.size
          clear hX8
          go_wp2_with fail
          refine (HRf.out _ (HX8.out.trans ((Ext.refl w8).alloc _))).mono ?_
          rintro e w10 ⟨hXI, hX10⟩
          obtain rfl : e = _ := hXI
          have hxm := hX10.heap (heap_alloc_new w8 _)
          obtain ⟨W, hW⟩ : ∃ W, W = w10.alloc (.cells #[.bool false, .int .u32 0, .int .u32 0, .string ⟨#[]⟩, .int .i64 nf, .int .i64 qf] 39) := ⟨_, rfl⟩
          have hxW : Ext w10 W := by rw [hW]; exact (Ext.refl _).alloc _
          obtain ⟨x0, x1, x2, x3, _, _, _, _⟩ := blk4 (hxW.heap hxm)
          have lx := lt_of_heap (hxW.heap hxm)
          have hwm : W.heap[w10.heap.size]? = some (.cells #[.bool false, .int .u32 0, .int .u32 0, .string ⟨#[]⟩, .int .i64 nf, .int .i64 qf] 39 (0, 0)) := by rw [hW]; exact heap_alloc_new _ _
          obtain ⟨y0, y1, y2, y3, y4, y5, _, _, _, _, _, _⟩ := blk6 hwm
          have ly := lt_of_heap hwm
          have HX8W := Lib.hid ((((Ext.refl w8).alloc _).trans hX10).trans hxW)
          have heq := run_neqM ⟨false, 0, 0, ⟨#[]⟩⟩
          simp only [MV.val, MV.cells] at heq
          generalize w8.heap.size = gx at *
          clear hwm hxm q8
          go_wp2_with fail
          rw [← hW]
          clear hW hX10 hxW
          have HGW := Lib.hid (HX8W.out.heap HGF.out)
          go_region_held3 (fun w' => w'.cell? ⟨gx, 0, none⟩ = some (.bool false) ∧ w'.cell? ⟨gx, 1, none⟩ = some (.int .u32 0) ∧ w'.cell? ⟨gx, 2, none⟩ = some (.int .u32 0) ∧ w'.cell? ⟨gx, 3, none⟩ = some (.slice none 0 0) ∧ w'.cell? ⟨w10.heap.size, 0, none⟩ = some (.bool false) ∧ w'.cell? ⟨w10.heap.size, 1, none⟩ = some (.int .u32 0) ∧ w'.cell? ⟨w10.heap.size, 2, none⟩ = some (.int .u32 0) ∧ w'.cell? ⟨w10.heap.size, 3, none⟩ = some (.string ⟨#[]⟩) ∧ w'.cell? ⟨w10.heap.size, 4, none⟩ = some (.int .i64 nf) ∧ w'.cell? ⟨w10.heap.size, 5, none⟩ = some (.int .i64 qf)) (first | exact ⟨x0, x1, x2, x3, y0, y1, y2, y3, y4, y5⟩ | exact keep10 (by assumption) hX11 | assumption) (first | (go_at_call 12; refine (HAs.out _ (HX8W.out.trans (drew_ext W))).mono ?_; rintro e w11 ⟨rfl, hX11⟩; have hgf11 := hX11.heap (o := .cells #[.int .i64 nf, .int .i64 qf] 49 (0, 0)) (g := gf) HGW.out) | (go_at_call 13; refine (number_fault gf nf qf _ hgf11).mono ?_; rintro e w12 ⟨rfl, rfl⟩) | (go_at_call 14; refine (place_fault gf nf qf _ hgf11).mono ?_; rintro e w13 ⟨rfl, rfl⟩))
          have HXE := Lib.hid (HXr.out.trans (HX8.out.trans (HX8W.out.trans ((drew_ext W).trans hX11))))
          clear hX11
          go_wp2_with fail
          go_roundw
          case rel => exact ⟨i + 1, by omega, by go_num, HXE.out⟩
          case measure => simp [intOf]; omega
        | none =>
          obtain ⟨v9, rfl, hO9⟩ := hIs
          obtain ⟨a9, c9, rfl, hR9, _⟩ := hO9.row2 (fun z hz => HB.out.row.2.2.2.1 z (List.mem_of_mem_drop hz))
          have HAs := Lib.hid (fun W (hW : Ext w8 W) => as_any rb rx rp a9 _ c9 (li.drop rk) W (hR9.ext hW))
          generalize (li.drop rk).length = d9 at *
          clear hO9 hR9
          have HX8 := Lib.hid hX8
          have q8 := (hX8.trans ((Ext.refl w8).alloc (.cells #[.bool rb, .int .u32 rx, .int .u32 rp, .slice a9 d9 c9] 32))).cell q
          have hg8 : G < w8.heap.size := Nat.lt_of_lt_of_le hgr hX8.size
          clear hX8
          go_wp2_with fail
          refine (HRf.out _ (HX8.out.trans ((Ext.refl w8).alloc _))).mono ?_
          rintro e w10 ⟨hXI, hX10⟩
          obtain rfl : e = _ := hXI
          have hxm := hX10.heap (heap_alloc_new w8 _)
          obtain ⟨W, hW⟩ : ∃ W, W = w10.alloc (.cells #[.bool rb, .int .u32 rx, .int .u32 rp, .string (strOfNums (li.drop rk)), .int .i64 0, .int .i64 (-1)] 39) := ⟨_, rfl⟩
          have hxW : Ext w10 W := by rw [hW]; exact (Ext.refl _).alloc _
          obtain ⟨x0, x1, x2, x3, _, _, _, _⟩ := blk4 (hxW.heap hxm)
          have lx := lt_of_heap (hxW.heap hxm)
          have hwm : W.heap[w10.heap.size]? = some (.cells #[.bool rb, .int .u32 rx, .int .u32 rp, .string (strOfNums (li.drop rk)), .int .i64 0, .int .i64 (-1)] 39 (0, 0)) := by rw [hW]; exact heap_alloc_new _ _
          obtain ⟨y0, y1, y2, y3, y4, y5, _, _, _, _, _, _⟩ := blk6 hwm
          have ly := lt_of_heap hwm
          have HX8W := Lib.hid ((((Ext.refl w8).alloc _).trans hX10).trans hxW)
          have heq := run_neqM ⟨rb, rx, rp, (strOfNums (li.drop rk))⟩
          simp only [MV.val, MV.cells] at heq
          generalize w8.heap.size = gx at *
          clear hwm hxm q8
          go_wp2_with fail
          rw [← hW]
          clear hW hX10 hxW
          go_region_held3 (fun w' => w'.cell? ⟨gx, 0, none⟩ = some (.bool rb) ∧ w'.cell? ⟨gx, 1, none⟩ = some (.int .u32 rx) ∧ w'.cell? ⟨gx, 2, none⟩ = some (.int .u32 rp) ∧ w'.cell? ⟨gx, 3, none⟩ = some (.slice a9 d9 c9) ∧ w'.cell? ⟨w10.heap.size, 0, none⟩ = some (.bool rb) ∧ w'.cell? ⟨w10.heap.size, 1, none⟩ = some (.int .u32 rx) ∧ w'.cell? ⟨w10.heap.size, 2, none⟩ = some (.int .u32 rp) ∧ w'.cell? ⟨w10.heap.size, 3, none⟩ = some (.string (strOfNums (li.drop rk))) ∧ w'.cell? ⟨w10.heap.size, 4, none⟩ = some (.int .i64 0) ∧ w'.cell? ⟨w10.heap.size, 5, none⟩ = some (.int .i64 (-1))) (first | exact ⟨x0, x1, x2, x3, y0, y1, y2, y3, y4, y5⟩ | exact keep10 (by assumption) hX11 | assumption) (first | (go_at_call 12; refine (HAs.out _ (HX8W.out.trans (drew_ext W))).mono ?_; rintro e w11 ⟨rfl, hX11⟩) | (go_at_call 13; refine (number_nil _).mono ?_; rintro e w12 ⟨rfl, rfl⟩) | (go_at_call 14; refine (place_nil _).mono ?_; rintro e w13 ⟨rfl, rfl⟩))
          have HXE := Lib.hid (HXr.out.trans (HX8.out.trans (HX8W.out.trans ((drew_ext W).trans hX11))))
          clear hX11
          go_wp2_with fail
          go_roundw
          case rel => exact ⟨i + 1, by omega, by go_num, HXE.out⟩
          case measure => simp [intOf]; omega
      · have hd : decide ((i : Int) < 5) = false := by simp; omega
        go_wp2_with fail
        refine (lives_any _).mono ?_
        rintro e w9 ⟨rfl, hX9⟩
        go_wp2_with fail
        go_ret
        exact ⟨rfl, HXc.out.trans (HXr.out.trans hX9)⟩
end Go.Proofs.YtcnbgcoklbmdaaaDoor
