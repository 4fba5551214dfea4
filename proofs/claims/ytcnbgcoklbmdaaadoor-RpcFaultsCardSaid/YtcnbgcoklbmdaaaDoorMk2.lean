/- Numbers as bytes: what grows out of a slice that has no room; the walk of xdr.U32. -/
import Derived.Test.YtcnbgcoklbmdaaaDoorIn
import Derived.Deep.AppendSrc
import Derived.Laws.AppendOwn
namespace Go.Proofs.YtcnbgcoklbmdaaaDoor
open Go.ChangeShapes Go.WideShapes Go.ChangeAt Go.RowKit

def bv (zs : List Int) : List Value := zs.map (.int .u8)
theorem bv_len (zs : List Int) : (bv zs).length = zs.length := by simp [bv]
theorem bv_app (a b : List Int) : bv (a ++ b) = bv a ++ bv b := by simp [bv]
def be4 (n : Int) : List Int := [n / 16777216, n / 65536 % 256, n / 256 % 256, n % 256]
theorem infoU8 : (Tryd.prog.info? 5).map (fun i => (i.zero, i.size, i.bytes)) = some (some (.int .u8 0), 1, 1) := by kernel_rfl

/-- 'append(b[:len(b):len(b)], news...)': always a new block. -/
theorem grow_row {w : World} {a : Option Addr} {len cap m c : Nat} {zs : List Int} (h : IsRow .u8 w a len cap zs) (ad : Addr) (news : List Value) (hl : news.length = m) (hm : 0 < m)
    (hnews : ∀ j u, news[j]? = some u → w.cell? (ad.add j) = some u) (h1 : ∀ u ∈ news, u.oneCell' = true) (hlm : len + m ≤ 10000000) (base : Nat) (hb : base ≤ w.heap.size) (ty : TypeId) :
    ∃ v' w', (Builtin.append_ #[22, 22] ty #[.slice a len len, .slice (some ad) m c]).run Tryd.prog w = .ok v' w' ∧ Owns w' base 5 v' (bv zs ++ news) ∧ Ext w w' := by
  obtain ⟨i0, hi, hz0, hz1, hz2⟩ := info_parts infoU8
  have hzl := h.1
  have hold : (Builtin.firstCells i0.size len (.slice a len len)).run Tryd.prog w.drew = .ok (bv zs).toArray w.drew := by
    rcases h.2.2.2.2 with h0 | ⟨g, o, rfl, hc⟩
    · have hz : zs = [] := List.eq_nil_of_length_eq_zero (by omega)
      subst hz
      subst h0
      cases a with
      | none => exact run_firstCells_none w.drew i0.size 0 0 0
      | some ad0 => exact run_firstCells_some w.drew i0.size 0 ad0 0 0 [] (by simp) (fun j u hj => by simp at hj)
    · refine run_firstCells_some w.drew i0.size len ⟨g, o, none⟩ len len (bv zs) (by rw [bv_len, hz1]; omega) (fun j u hj => ?_)
      have hj' : j < zs.length := by have := (List.getElem?_eq_some_iff.1 hj).1; rwa [bv_len] at this
      rw [Go.WideShapes.add_plain]
      have := hc j (by omega)
      rw [World.cell?_drew, this, ← hj]
      simp [bv, List.getD, List.getElem?_eq_getElem hj']
  have hr := run_append_grow_src (P := Tryd.prog) w 22 22 ty 5 i0 _ Tryd.underlying22 hi hz0 a len len (bv zs) hold (.slice (some ad) m c) m news
    (Src.ofSlice w Tryd.underlying22 ad m c news (by rw [hl, hz1]; omega) hnews h1) (by omega) (by omega) (growslice_fits (by omega) (by rw [hz2]; omega))
  have hge := grownCap_ge w (len + m) len 5
  have hcm : grownCap w (len + m) len 5 ≤ maxLen := grownCap_le_maxLen w (len + m) len 5 (by unfold maxLen; omega)
  have hxl : (bv zs ++ news).length = len + m := by rw [List.length_append, bv_len, hl, hzl]
  refine ⟨_, _, hr, ⟨by omega, .inr ⟨w.heap.size, _, _, by rw [hxl], hb, heap_alloc_new w.drew _, by rw [hxl]; exact hge, hcm, ?_, ?_⟩⟩, (Ext.refl w).drew.alloc _⟩
  · simp only [Array.size_append, List.size_toArray, size_zeroCells, hxl]
    simp [Value.cells]
    omega
  · simp only [Array.toList_append, Nat.mul_one]
    exact List.take_left

/-- The four bytes of a number. -/
theorem news4 (w : World) (n : Int) : ∀ j u, (bv (be4 n))[j]? = some u → (w.alloc (.cells #[.int .u8 (n / 16777216), .int .u8 (n / 65536 % 256), .int .u8 (n / 256 % 256), .int .u8 (n % 256)] 5)).cell? ((⟨w.heap.size, 0, none⟩ : Addr).add j) = some u := fun j u hj => by
  match j with
  | 0 => simp [bv, be4] at hj; subst hj; simp [Addr.add]
  | 1 => simp [bv, be4] at hj; subst hj; simp [Addr.add]
  | 2 => simp [bv, be4] at hj; subst hj; simp [Addr.add]
  | 3 => simp [bv, be4] at hj; subst hj; simp [Addr.add]
  | j + 4 => simp [bv, be4] at hj
set_option maxHeartbeats 1000000 in
theorem u32_some (ad : Addr) (len cap : Nat) (zs : List Int) (n : Int) (hn0 : 0 ≤ n) (hn1 : n < 4294967296) (w : World) (h : IsRow .u8 w (some ad) len cap zs) (hl : len ≤ 1000000) :
    Calls Tryd.prog 32 #[.slice (some ad) len cap, .int .u32 n] w fun r w' => ∃ v, r = .returned v ∧ Owns w' w.heap.size 5 v (bv (zs ++ be4 n)) ∧ Ext w w' := by
  have hlc := h.2.1
  have hcm := h.2.2.1
  obtain ⟨v', w', h1, h2, h3⟩ := grow_row (m := 4) (c := 4) (h.ext ((Ext.refl w).alloc (.cells #[.int .u8 (n / 16777216), .int .u8 (n / 65536 % 256), .int .u8 (n / 256 % 256), .int .u8 (n % 256)] 5))) ⟨w.heap.size, 0, none⟩ (bv (be4 n)) rfl (by omega)
    (news4 w n) (by simp [bv, be4, Value.oneCell']) (by omega) w.heap.size (by simp) 22
  rw [← bv_app] at h2
  unfold maxLen at hcm
  have H1 := Lib.hid h1
  have H2 := Lib.hid h2
  have H3 := Lib.hid (((Ext.refl w).alloc (.cells #[.int .u8 (n / 16777216), .int .u8 (n / 65536 % 256), .int .u8 (n / 256 % 256), .int .u8 (n % 256)] 5)).trans h3)
  clear h h1 h2 h3
  go_enter Tryd.func32, Tryd.ntmps32
  go_wp2_with (at_builtin; refine wpList_append_run rfl (.tmp 10) (.tmp 22) _ rfl _ _ _ rfl rfl H1.out ?_)
  go_ret
  exact ⟨_, rfl, H2.out, H3.out⟩
set_option maxHeartbeats 1000000 in
theorem u32_nil (n : Int) (hn0 : 0 ≤ n) (hn1 : n < 4294967296) (w : World) :
    Calls Tryd.prog 32 #[.slice none 0 0, .int .u32 n] w fun r w' => ∃ v, r = .returned v ∧ Owns w' w.heap.size 5 v (bv (be4 n)) ∧ Ext w w' := by
  have h : IsRow .u8 w none 0 0 [] := ⟨rfl, by omega, by unfold maxLen; omega, by simp, .inl rfl⟩
  obtain ⟨v', w', h1, h2, h3⟩ := grow_row (m := 4) (c := 4) (h.ext ((Ext.refl w).alloc (.cells #[.int .u8 (n / 16777216), .int .u8 (n / 65536 % 256), .int .u8 (n / 256 % 256), .int .u8 (n % 256)] 5))) ⟨w.heap.size, 0, none⟩ (bv (be4 n)) rfl (by omega)
    (news4 w n) (by simp [bv, be4, Value.oneCell']) (by omega) w.heap.size (by simp) 22
  have H1 := Lib.hid h1
  have H2 := Lib.hid (show Owns w' w.heap.size 5 v' (bv (be4 n)) from h2)
  have H3 := Lib.hid (((Ext.refl w).alloc (.cells #[.int .u8 (n / 16777216), .int .u8 (n / 65536 % 256), .int .u8 (n / 256 % 256), .int .u8 (n % 256)] 5)).trans h3)
  clear h h1 h2 h3
  go_enter Tryd.func32, Tryd.ntmps32
  go_wp2_with (at_builtin; refine wpList_append_run rfl (.tmp 10) (.tmp 22) _ rfl _ _ _ rfl rfl H1.out ?_)
  go_ret
  exact ⟨_, rfl, H2.out, H3.out⟩
/-- A row of the call's own reads as a row. -/
theorem Owns.row {w : World} {base : Nat} {e : TypeId} {v : Value} {zs : List Int} (h : Owns w base e v (bv zs)) (hw : ∀ z ∈ zs, (Lit.int .u8 z).wf = true) : ∃ a cap, v = .slice a zs.length cap ∧ IsRow .u8 w a zs.length cap zs := by
  rcases h.form with ⟨hv, h0⟩ | ⟨g, cap, cur, hv, hb, hn, hm, hg, hs, ht⟩
  · have hz : zs = [] := by simpa [bv] using h0
    subst hz
    exact ⟨none, 0, hv, rfl, by simp, by unfold maxLen; omega, by simp, .inl rfl⟩
  · rw [bv_len] at hv hn ht
    refine ⟨_, cap, hv, rfl, hn, hm, hw, .inr ⟨g, 0, rfl, fun i hi => ?_⟩⟩
    have h1 : (cur.toList.take zs.length)[i]? = cur[i]? := by rw [List.getElem?_take, if_pos hi]; simp
    rw [Nat.zero_add, cell_of hg i, ← h1, ht]
    simp [bv, List.getD, List.getElem?_eq_getElem hi]
theorem u32_own {w : World} {base : Nat} {e : TypeId} {v : Value} {zs : List Int} (h : Owns w base e v (bv zs)) (hw : ∀ z ∈ zs, (Lit.int .u8 z).wf = true) (n : Int) (hn0 : 0 ≤ n) (hn1 : n < 4294967296) (hl : zs.length ≤ 1000000) :
    Calls Tryd.prog 32 #[v, .int .u32 n] w fun r w' => ∃ v, r = .returned v ∧ Owns w' w.heap.size 5 v (bv (zs ++ be4 n)) ∧ Ext w w' := by
  rcases h.form with ⟨hv, h0⟩ | _
  · have hz : zs = [] := by simpa [bv] using h0
    subst hz
    rw [hv]
    exact u32_nil n hn0 hn1 w
  · obtain ⟨a, cap, rfl, hr⟩ := h.row hw
    cases a with
    | none =>
      have hz : zs.length = 0 := by
        rcases hr.2.2.2.2 with h0 | ⟨g, o, h1, _⟩
        · exact h0
        · cases h1
      have hz : zs = [] := List.eq_nil_of_length_eq_zero hz
      subst hz
      rcases h.form with ⟨hv, _⟩ | ⟨g, cap', cur, hv, _⟩
      · rw [hv]; exact u32_nil n hn0 hn1 w
      · cases hv
    | some ad => exact u32_some ad _ cap zs n hn0 hn1 w hr hl
theorem be4_wf (n : Int) (hn0 : 0 ≤ n) (hn1 : n < 4294967296) : ∀ z ∈ be4 n, (Lit.int .u8 z).wf = true := by
  intro z hz
  simp only [be4, List.mem_cons, List.not_mem_nil, or_false] at hz
  simp [Lit.wf, IntKind.min, IntKind.max, IntKind.signed, IntKind.bits]
  omega
end Go.Proofs.YtcnbgcoklbmdaaaDoor
