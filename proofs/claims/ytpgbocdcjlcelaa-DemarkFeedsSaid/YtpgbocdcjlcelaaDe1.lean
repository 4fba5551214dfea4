/- The document's fragments: plain lists; the walks of the document's Sizes, Mark, Size. -/
import Derived.Test.YtpgbocdcjlcelaaIn
import Derived.Deep.AppendSrc
import Derived.Laws.AppendOwn
import Derived.Deep.RegionLaw
import Derived.Deep.AppendLies
import Derived.Deep.Upon
import Derived.Laws.BytesArg
import Derived.Lib.SlBytesConst
namespace Go.Proofs.Ytpgbocdcjlcelaa
open Go.ChangeShapes Go.WideShapes Go.ChangeAt Go.RowKit
/-- How many fragments n bytes have, and how many bytes the i'th has. -/
def cnt (n s : Nat) : Nat := if n = 0 then 1 else (n + s - 1) / s
def szAt (n s i : Nat) : Nat := min s (n - i * s)
def vals (n s k : Nat) : List Value := (List.range k).map fun i => .int .i64 (szAt n s i)
theorem vals_len (n s k : Nat) : (vals n s k).length = k := by simp [vals]
theorem vals_succ (n s k : Nat) : vals n s (k + 1) = vals n s k ++ [.int .i64 (szAt n s k)] := by simp [vals, List.range_succ]
theorem vals_at {n s k i : Nat} (h : i < (vals n s k).length) : (vals n s k)[i] = .int .i64 (szAt n s i) := by simp [vals]
theorem cnt_pos (n s : Nat) (hs : 1 ≤ s) : 1 ≤ cnt n s := by
  unfold cnt
  split
  · omega
  · exact (Nat.le_div_iff_mul_le (by omega)).2 (by omega)
/-- i is the last fragment's number just when what is left is no more than s. -/
theorem cnt_iff (n s i : Nat) (hs : 1 ≤ s) : i < cnt n s ↔ (i = 0 ∨ i * s < n) := by
  unfold cnt
  split
  · next h => subst h; omega
  · next h =>
    rw [show (i < (n + s - 1) / s) ↔ i + 1 ≤ (n + s - 1) / s from Iff.rfl, Nat.le_div_iff_mul_le (by omega), Nat.add_mul]
    constructor
    · intro h1; right; omega
    · rintro (rfl | h1)
      · omega
      · omega
theorem cnt_le (n s : Nat) (hs : 1 ≤ s) (hn : n ≤ 4096) : cnt n s ≤ 4096 := by
  unfold cnt
  split
  · omega
  · refine Nat.div_le_of_le_mul ?_
    have : 4096 * 1 ≤ 4096 * s := Nat.mul_le_mul_left _ hs
    rw [Nat.mul_comm s 4096]
    omega
theorem wrap_in (n : Int) (h : -9223372036854775808 ≤ n ∧ n ≤ 9223372036854775807) : wrap64 n = n := by unfold wrap64; omega
theorem infoI64 : (Try.prog.info? 3).map (fun i => (i.zero, i.size, i.bytes)) = some (some (.int .i64 0), 1, 8) := by kernel_rfl
/-- One more number is appended. -/
theorem more {w : World} {base : Nat} {v : Value} {xs : List Value} (h : Owns w base 3 v xs) (x : Int) (hl : xs.length ≤ 5000) (hb : base ≤ w.heap.size) :
    ∃ v' w', (Builtin.append_ #[24, 24] 24 #[v, .slice (some ⟨w.heap.size, 0, none⟩) 1 1]).run Try.prog (w.alloc (.cells #[.int .i64 x] 3)) = .ok v' w' ∧ Owns w' base 3 v' (xs ++ [.int .i64 x]) ∧
      Ext w (w.alloc (.cells #[.int .i64 x] 3)) ∧ ∀ o, o.heap.size ≤ base → Ext o w → Ext o w' := by
  obtain ⟨v', w', h1, h2, h3, _⟩ := h.append1 (P := Try.prog) (t := 24) (ty := 24) (.int .i64 0) 8 Try.underlying24 infoI64 rfl (.int .i64 x) rfl (by unfold maxLen; omega) (by omega) hb
  exact ⟨v', w', h1, h2, (Ext.refl w).alloc _, fun o ho hx => grown_ext h3 (hx.alloc _) (fun g hg => by have := (h.lt hg).1; omega)⟩
set_option maxHeartbeats 1000000 in
theorem refSizes_any (n s : Nat) (hs : 1 ≤ s) (hs2 : s ≤ 9223372036854775807) (hn : n ≤ 4096) (w : World) :
    Calls Try.prog 24 #[.int .i64 n, .int .i64 s] w fun r w' => ∃ v, r = .returned v ∧ Owns w' w.heap.size 3 v (vals n s (cnt n s)) ∧ Ext w w' := by
  have hcl := cnt_le n s hs hn
  go_enter Try.func24, Try.ntmps24
  go_wp2_with fail
  go_loopw [0, 5] (fun v0 v5 wr => ∃ i : Nat, i < cnt n s ∧ v0 = .int .i64 ((n - i * s : Nat) : Int) ∧ Owns wr w.heap.size 3 v5 (vals n s i) ∧ Ext w wr) (fun v0 _ _ => (intOf v0).toNat)
  case atStart => exact ⟨0, cnt_pos n s hs, by simp, Owns.nil _ _ _, Ext.refl w⟩
  case round =>
    obtain ⟨i, hi, rfl, hO, hX⟩ := hrel
    have HO := Lib.hid hO
    have HX := Lib.hid hX
    clear hO hX
    have HI := Lib.hid (cnt_iff n s (i + 1) hs)
    have HN := Lib.hid (show n - i * s - s = n - (i + 1) * s by rw [Nat.add_mul]; omega)
    have HJ := Lib.hid (show (i + 1) * s < n ↔ s < n - i * s by rw [Nat.add_mul]; omega)
    have HZ := Lib.hid (show szAt n s i = min s (n - i * s) from rfl)
    have hle : n - i * s ≤ 4096 := by omega
    generalize n - i * s = m at *
    obtain ⟨v', w', h1, h2, _, h4⟩ := more HO.out (szAt n s i) (by rw [vals_len]; omega) HX.out.size
    have H2 := Lib.hid (show Owns w' w.heap.size 3 v' (vals n s (i + 1)) by rw [vals_succ]; exact h2)
    have H4 := Lib.hid (h4 w (Nat.le_refl _) HX.out)
    clear h2 h4
    by_cases hms : s < m
    · have hd : decide (s < m) = true := by simpa using hms
      have hz : szAt n s i = s := by rw [HZ.out]; omega
      rw [hz] at h1
      have H1 := Lib.hid h1
      have hi1 : i + 1 < cnt n s := HI.out.2 (.inr (HJ.out.2 hms))
      clear h1 hz
      go_wp2_with (at_builtin; refine wpList_append_run rfl (.tmp 9) (.tmp 11) _ rfl _ _ _ rfl rfl H1.out ?_)
      go_roundw
      case rel => exact ⟨i + 1, hi1, by rw [← HN.out]; go_num, H2.out, H4.out⟩
      case measure => simp [intOf]; omega
    · have hd : decide (s < m) = false := by simpa using hms
      have hz : szAt n s i = m := by rw [HZ.out]; omega
      rw [hz] at h1
      have H1 := Lib.hid h1
      have HI1 := Lib.hid (show cnt n s = i + 1 by have h1 := HI.out; have h2 := HJ.out; omega)
      clear h1 hz
      go_wp2_with (at_builtin; refine wpList_append_run rfl (.tmp 16) (.tmp 18) _ rfl _ _ _ rfl rfl H1.out ?_)
      go_ret
      exact ⟨_, rfl, by rw [HI1.out]; exact H2.out, H4.out⟩
def bv (zs : List Int) : List Value := zs.map (.int .u8)
theorem bv_len (zs : List Int) : (bv zs).length = zs.length := by simp [bv]
theorem bv_app (a b : List Int) : bv (a ++ b) = bv a ++ bv b := by simp [bv]
def be4 (n : Int) : List Int := [n / 16777216, n / 65536 % 256, n / 256 % 256, n % 256]
theorem infoU8 : (Try.prog.info? 5).map (fun i => (i.zero, i.size, i.bytes)) = some (some (.int .u8 0), 1, 1) := by kernel_rfl
/-- 'append(b[:len(b):len(b)], news...)': always a new block. -/
theorem grow_row {w : World} {a : Option Addr} {len cap m c : Nat} {zs : List Int} (h : IsRow .u8 w a len cap zs) (ad : Addr) (news : List Value) (hl : news.length = m) (hm : 0 < m)
    (hnews : ∀ j u, news[j]? = some u → w.cell? (ad.add j) = some u) (h1 : ∀ u ∈ news, u.oneCell' = true) (hlm : len + m ≤ 10000000) (base : Nat) (hb : base ≤ w.heap.size) (ty : TypeId) :
    ∃ v' w', (Builtin.append_ #[22, 22] ty #[.slice a len len, .slice (some ad) m c]).run Try.prog w = .ok v' w' ∧ Owns w' base 5 v' (bv zs ++ news) ∧ Ext w w' := by
  obtain ⟨i0, hi, hz0, hz1, hz2⟩ := info_parts infoU8
  have hzl := h.1
  have hold : (Builtin.firstCells i0.size len (.slice a len len)).run Try.prog w.drew = .ok (bv zs).toArray w.drew := by
    rcases h.2.2.2.2 with h0 | ⟨g, o, rfl, hc⟩
    · have hz : zs = [] := List.eq_nil_of_length_eq_zero (by omega)
      subst hz
      subst h0
      cases a with
      | none => exact run_firstCells_none w.drew i0.size 0 0 0
      | some ad0 => exact run_firstCells_some w.drew i0.size 0 ad0 0 0 [] (by simp) (fun j u hj => by simp at hj)
    · refine run_firstCells_some w.drew i0.size len ⟨g, o, none⟩ len len (bv zs) (by rw [bv_len, hz1]; omega) (fun j u hj => ?_)
      have hj' : j < zs.length := by have := (List.getElem?_eq_some_iff.1 hj).1; rwa [bv_len] at this
      rw [Go.WideShapes.add_plain]
      have := hc j (by omega)
      rw [World.cell?_drew, this, ← hj]
      simp [bv, List.getD, List.getElem?_eq_getElem hj']
  have hr := run_append_grow_src (P := Try.prog) w 22 22 ty 5 i0 _ Try.underlying22 hi hz0 a len len (bv zs) hold (.slice (some ad) m c) m news
    (Src.ofSlice w Try.underlying22 ad m c news (by rw [hl, hz1]; omega) hnews h1) (by omega) (by omega) (growslice_fits (by omega) (by rw [hz2]; omega))
  have hge := grownCap_ge w (len + m) len 5
  have hcm : grownCap w (len + m) len 5 ≤ maxLen := grownCap_le_maxLen w (len + m) len 5 (by unfold maxLen; omega)
  have hxl : (bv zs ++ news).length = len + m := by rw [List.length_append, bv_len, hl, hzl]
  refine ⟨_, _, hr, ⟨by omega, .inr ⟨w.heap.size, _, _, by rw [hxl], hb, heap_alloc_new w.drew _, by rw [hxl]; exact hge, hcm, ?_, ?_⟩⟩, (Ext.refl w).drew.alloc _⟩
  · simp only [Array.size_append, List.size_toArray, size_zeroCells, hxl]
    simp [Value.cells]
    omega
  · simp only [Array.toList_append, Nat.mul_one]
    exact List.take_left
/-- A row of the call's own reads as a row. -/
theorem Owns.row {w : World} {base : Nat} {e : TypeId} {v : Value} {zs : List Int} (h : Owns w base e v (bv zs)) (hw : ∀ z ∈ zs, (Lit.int .u8 z).wf = true) : ∃ a cap, v = .slice a zs.length cap ∧ IsRow .u8 w a zs.length cap zs := by
  rcases h.form with ⟨hv, h0⟩ | ⟨g, cap, cur, hv, hb, hn, hm, hg, hs, ht⟩
  · have hz : zs = [] := by simpa [bv] using h0
    subst hz
    exact ⟨none, 0, hv, rfl, by simp, by unfold maxLen; omega, by simp, .inl rfl⟩
  · rw [bv_len] at hv hn ht
    refine ⟨_, cap, hv, rfl, hn, hm, hw, .inr ⟨g, 0, rfl, fun i hi => ?_⟩⟩
    have h1 : (cur.toList.take zs.length)[i]? = cur[i]? := by rw [List.getElem?_take, if_pos hi]; simp
    rw [Nat.zero_add, cell_of hg i, ← h1, ht]
    simp [bv, List.getD, List.getElem?_eq_getElem hi]
theorem be4_wf (n : Int) (hn0 : 0 ≤ n) (hn1 : n < 4294967296) : ∀ z ∈ be4 n, (Lit.int .u8 z).wf = true := by
  intro z hz
  simp only [be4, List.mem_cons, List.not_mem_nil, or_false] at hz
  simp [Lit.wf, IntKind.min, IntKind.max, IntKind.signed, IntKind.bits]
  omega
def hdr (n s i : Nat) : Int := szAt n s i + (if i + 1 = cnt n s then 2147483648 else 0)
def part (zs : List Int) (s i : Nat) : List Int := be4 (hdr zs.length s i) ++ ((zs.drop (i * s)).take (szAt zs.length s i))
def fr (zs : List Int) (s k : Nat) : List Int := (List.range k).flatMap (part zs s)
theorem fr_succ (zs : List Int) (s k : Nat) : fr zs s (k + 1) = (fr zs s k ++ be4 (hdr zs.length s k)) ++ ((zs.drop (k * s)).take (szAt zs.length s k)) := by simp [fr, List.range_succ, part, List.append_assoc]
theorem hdr_bd (n s i : Nat) (hn : n ≤ 4096) : 0 ≤ hdr n s i ∧ hdr n s i < 4294967296 := by
  have : szAt n s i ≤ n := by unfold szAt; omega
  unfold hdr
  split <;> omega
theorem fr_wf {zs : List Int} (hz : ∀ z ∈ zs, (Lit.int .u8 z).wf = true) (hn : zs.length ≤ 4096) (s k : Nat) : ∀ z ∈ fr zs s k, (Lit.int .u8 z).wf = true := by
  intro z hm
  simp only [fr, List.mem_flatMap, List.mem_range, part, List.mem_append] at hm
  obtain ⟨i, _, h | h⟩ := hm
  · have hb := hdr_bd zs.length s i hn
    exact be4_wf _ hb.1 hb.2 z h
  · exact hz z (List.mem_of_mem_drop (List.mem_of_mem_take h))
theorem fr_len (zs : List Int) (hn : zs.length ≤ 4096) (s k : Nat) : (fr zs s k).length ≤ k * 4100 := by
  induction k with
  | zero => simp [fr]
  | succ k ih =>
    rw [fr_succ]
    simp only [List.length_append, List.length_take, List.length_drop, be4, List.length_cons, List.length_nil]
    omega
theorem Owns.low {w : World} {base b' : Nat} {e : TypeId} {v : Value} {xs : List Value} (h : Owns w base e v xs) (hb : b' ≤ base) : Owns w b' e v xs := by
  refine ⟨h.1, ?_⟩
  rcases h.2 with hn | ⟨g, cap, cur, hv, hb2, rest⟩
  · exact .inl hn
  · exact .inr ⟨g, cap, cur, hv, by omega, rest⟩
/-- What came in is appended to a row of the call's own. -/
theorem app_row {w : World} {base : Nat} {v : Value} {xs : List Value} (h : Owns w base 5 v xs) {a : Option Addr} {len cap c : Nat} {ys : List Int} (hy : IsRow .u8 w a len cap ys) (ha : a = none → c = 0) (hl : xs.length + len ≤ 10000000) (hb : base ≤ w.heap.size) (ty : TypeId) :
    ∃ v' w', (Builtin.append_ #[22, 22] ty #[v, .slice a len c]).run Try.prog w = .ok v' w' ∧ Owns w' base 5 v' (xs ++ bv ys) ∧ w.grownBy w' v.ownBlock := by
  obtain ⟨i0, hi, hz0, hz1, hz2⟩ := info_parts infoU8
  rcases Nat.eq_zero_or_pos len with h0 | h0
  · have hz : ys = [] := List.eq_nil_of_length_eq_zero (by have := hy.1; omega)
    subst hz
    subst h0
    have hS : Src Try.prog i0.size 22 (.slice a 0 c) 0 [] w := by
      cases a with
      | none => exact Src.ofNil w Try.underlying22 c
      | some ad => exact Src.ofSlice w Try.underlying22 ad 0 c [] (by simp) (fun j u hj => by simp at hj) (by simp)
    have hv : ∃ A n cp, v = .slice A n cp ∧ n ≤ cp := by
      rcases h.form with ⟨hv, _⟩ | ⟨g, cp, cur, hv, _, hn, _⟩
      · exact ⟨_, _, _, hv, by omega⟩
      · exact ⟨_, _, _, hv, hn⟩
    obtain ⟨A, n, cp, rfl, hle⟩ := hv
    refine ⟨_, _, run_append_nothing w 22 22 ty 5 i0 Try.underlying22 hi A n cp hle _ hS, by simpa [bv] using h, ⟨rfl, rfl, rfl, Nat.le_refl _, fun _ _ _ => rfl⟩⟩
  · rcases hy.2.2.2.2 with hx | ⟨g, o, rfl, hc⟩
    · omega
    · obtain ⟨v', w', h1, h2, h3, _⟩ := run_append_own_at (P := Try.prog) w base 22 ty 5 i0 _ 1 1 Try.underlying22 hi hz0 hz1 hz2 rfl (by decide) v xs.length xs h ⟨g, o, none⟩ len c (bv ys) (by rw [bv_len, hy.1]; omega)
        (fun j u hj => by
          have hj' : j < ys.length := by have := (List.getElem?_eq_some_iff.1 hj).1; rwa [bv_len] at this
          rw [Go.WideShapes.add_plain, hc j (by have := hy.1; omega), ← hj]
          simp [bv, List.getD, List.getElem?_eq_getElem hj']) (by
          intro u hu
          obtain ⟨z, _, rfl⟩ := List.mem_map.1 hu
          rfl) (by unfold maxLen; omega) (by omega) hb
      refine ⟨v', w', h1, ?_, h3⟩
      unfold Owns
      rw [List.length_append, bv_len, hy.1]
      exact h2
theorem vals_row {w : World} {n s k b : Nat} {v : Value} (h : Owns w b 3 v (vals n s k)) (hk0 : 1 ≤ k) : ∃ g cap, v = .slice (some ⟨g, 0, none⟩) k cap ∧ k ≤ cap ∧ cap ≤ maxLen ∧ g < w.heap.size ∧ ∀ i, i < k → w.cell? ⟨g, i, none⟩ = some (.int .i64 (szAt n s i)) := by
  rcases h.form with ⟨_, h0⟩ | ⟨g, cap, cur, hv, hb, hn, hm, hg, hs, ht⟩
  · have := congrArg List.length h0; rw [vals_len] at this; simp at this; omega
  · rw [vals_len] at hv hn
    refine ⟨g, cap, hv, hn, hm, lt_of_heap hg, fun i hi => ?_⟩
    obtain ⟨g', cap', hv', _, _, _, _, hc, _⟩ := h.cell (i := i) (by rw [vals_len]; exact hi)
    rw [vals_at] at hc
    rw [hv, vals_len] at hv'
    injection hv' with hv' _ _
    injection hv' with hv'
    injection hv' with hv' _ _
    rw [hv']
    exact hc
/-- What is left of a record, when its first k bytes are cut off. -/
theorem IsRow.cut {k : IntKind} {w : World} {g o len cap : Nat} {zs : List Int} (h : IsRow k w (some ⟨g, o, none⟩) len cap zs) {j : Nat} (hj : j ≤ len) (A : Option Addr) (hA : j < len → A = some ⟨g, o + j, none⟩) : IsRow k w A (len - j) (cap - j) (zs.drop j) := by
  obtain ⟨h1, h2, h3, h4, h5⟩ := h
  refine ⟨by rw [List.length_drop]; omega, by omega, by omega, fun z hz => h4 z (List.mem_of_mem_drop hz), ?_⟩
  rcases Nat.lt_or_ge j len with hlt | hge
  · right
    refine ⟨g, o + j, hA hlt, fun i hi => ?_⟩
    rcases h5 with h5 | ⟨g', o', e, hc⟩
    · omega
    · injection e with e
      injection e with e1 e2 _
      subst e1 e2
      rw [show o + j + i = o + (j + i) by omega, hc _ (by omega)]
      simp [List.getD, List.getElem?_drop]
  · left; omega
theorem IsRow.head {k : IntKind} {w : World} {a : Option Addr} {len cap : Nat} {zs : List Int} (h : IsRow k w a len cap zs) {j : Nat} (hj : j ≤ len) : IsRow k w a j cap (zs.take j) := by
  obtain ⟨h1, h2, h3, h4, h5⟩ := h
  refine ⟨by rw [List.length_take]; omega, by omega, h3, fun z hz => h4 z (List.mem_of_mem_take hz), ?_⟩
  rcases h5 with h5 | ⟨g, o, e, hc⟩
  · left; omega
  · right
    refine ⟨g, o, e, fun i hi => ?_⟩
    rw [hc i (by omega)]
    simp [List.getD, hi]
theorem around_any (n m : Int) (w : World) (hm : 0 < m) (hn : -9223372036854775808 ≤ n) (hn2 : n ≤ 9223372036854775807) :
    Calls Try.prog 11 #[.int .i64 n, .int .i64 m] w fun r w' => r = .returned (.int .i64 (arnd n m)) ∧ w = w' := by
  by_cases h : n < 0
  · have H := Lib.hid (arnd_neg n m h)
    go_enter Try.func11, Try.ntmps11
    go_wp2
    go_ret
    exact ⟨ret_int H.out.symm, rfl⟩
  · have H := Lib.hid (arnd_pos n m h)
    go_enter Try.func11, Try.ntmps11
    go_wp2
    go_ret
    exact ⟨ret_int H.out.symm, rfl⟩
/-- The same, its answer a natural number. -/
theorem around_nat (n : Int) (m : Nat) (hm : 0 < m) (hw : (Lit.int .i64 n).wf = true) : ∃ k : Nat, k < m ∧ ∀ W, Calls Try.prog 11 #[.int .i64 n, .int .i64 m] W fun r w' => r = .returned (.int .i64 k) ∧ W = w' := by
  have hn : -9223372036854775808 ≤ n ∧ n ≤ 9223372036854775807 := by simpa [Lit.wf, IntKind.min, IntKind.max, IntKind.signed, IntKind.bits] using hw
  have hab := arnd_bd n m (by omega)
  obtain ⟨k, hk⟩ := Int.eq_ofNat_of_zero_le hab.1
  exact ⟨k, by omega, fun W => (around_any n m W (by omega) hn.1 hn.2).mono fun r w' h => by rw [← hk]; exact h⟩
/-- A row of the call's own as a string. -/
theorem Owns.str {w : World} {base : Nat} {e : TypeId} {v : Value} {zs : List Int} (h : Owns w base e v (bv zs)) : (convert 22 9 v).run Try.prog w = .ok (.string (strOfNums zs)) w := by
  rcases h.form with ⟨rfl, h0⟩ | ⟨g, cap, cur, rfl, hb, hn, hm, hg, hs, ht⟩
  · have hz : zs = [] := by simpa [bv] using h0
    subst hz
    exact run_convert_bytes_nil w 22 5 Try.underlying22 Try.underlying5 0 0 9 Try.underlying9
  · rw [bv_len] at ht ⊢
    refine run_convert_bytes_arg w 22 5 Try.underlying22 Try.underlying5 g 0 zs.length cap zs rfl (fun i hi => ?_) 9 Try.underlying9
    have h1 : (cur.toList.take zs.length)[i]? = cur[i]? := by rw [List.getElem?_take, if_pos hi]; simp
    rw [Nat.zero_add, cell_of hg i, ← h1, ht]
    simp [bv, List.getD, List.getElem?_eq_getElem hi]
/-- The sum of the first i sizes. -/
theorem sum_step (n s i : Nat) : min n (i * s) + szAt n s i = min n ((i + 1) * s) := by unfold szAt; rw [Nat.add_mul]; omega
theorem sum_all (n s : Nat) (hs : 1 ≤ s) : min n (cnt n s * s) = n := by
  have h := cnt_iff n s (cnt n s) hs
  have h0 := cnt_pos n s hs
  have : ¬ cnt n s * s < n := fun h1 => by have := h.2 (.inr h1); omega
  omega
/-- The bytes and the error's number. -/
def ans (zs : List Int) (size : Int) : List Int × Int :=
  if size < 1 then ([], 1) else if 4096 < zs.length then ([], 4) else if 64 < cnt zs.length size.toNat then ([], 5) else (fr zs size.toNat (cnt zs.length size.toNat), 0)
/-- The address is none or a plain one. -/
def Plain (a : Option Addr) (cap : Nat) : Prop := (a = none ∧ cap = 0) ∨ ∃ g o, a = some ⟨g, o, none⟩
theorem refU32_any (n : Int) (hn0 : 0 ≤ n) (hn1 : n < 4294967296) (w : World) :
    Calls Try.prog 25 #[.int .u32 n] w fun r w' => r = .returned (.slice (some ⟨w.heap.size, 0, none⟩) 4 4) ∧ w' = w.alloc (.cells #[.int .u8 (n / 16777216), .int .u8 (n / 65536 % 256), .int .u8 (n / 256 % 256), .int .u8 (n % 256)] 5) := by
  go_enter Try.func25, Try.ntmps25
  go_wp2
  go_ret
  exact ⟨rfl, rfl⟩
theorem be4_row (n : Int) (hn0 : 0 ≤ n) (hn1 : n < 4294967296) (w : World) : IsRow .u8 (w.alloc (.cells #[.int .u8 (n / 16777216), .int .u8 (n / 65536 % 256), .int .u8 (n / 256 % 256), .int .u8 (n % 256)] 5)) (some ⟨w.heap.size, 0, none⟩) 4 4 (be4 n) := by
  refine ⟨rfl, by omega, by unfold maxLen; omega, be4_wf n hn0 hn1, .inr ⟨w.heap.size, 0, rfl, fun i hi => ?_⟩⟩
  match i, hi with
  | 0, _ => (simp only [World.cell?, heap_alloc_new]; rfl)
  | 1, _ => (simp only [World.cell?, heap_alloc_new]; rfl)
  | 2, _ => (simp only [World.cell?, heap_alloc_new]; rfl)
  | 3, _ => (simp only [World.cell?, heap_alloc_new]; rfl)
set_option maxRecDepth 100000 in
set_option maxHeartbeats 2000000 in
theorem refMark_ok (a : Option Addr) (n cap : Nat) (zs : List Int) (s : Nat) (hs : 1 ≤ s) (hs2 : s ≤ 9223372036854775807) (hn : n ≤ 4096) (hc : cnt n s ≤ 64) (w : World) (h : IsRow .u8 w a n cap zs) (ha : Plain a cap) :
    Calls Try.prog 21 #[.slice a n cap, .int .i64 s] w fun r w' => ∃ v, r = .returned (.tuple #[v, .int .i64 0]) ∧ Owns w' w.heap.size 5 v (bv (fr zs s (cnt n s))) ∧ Ext w w' := by
  have hd1 : decide ((s : Int) < 1) = false := by simp; omega
  have hd2 : decide (4096 < (n : Int)) = false := by simp; omega
  have hd3 : decide (64 < (cnt n s : Int)) = false := by simp; omega
  have hcm := h.2.2.1
  have hlc := h.2.1
  have hcp := cnt_pos n s hs
  unfold maxLen at hcm
  have HNE := Lib.hid h.1
  have H := Lib.hid h
  clear h
  go_enter Try.func21, Try.ntmps21
  go_wp2_with fail
  refine (refSizes_any n s hs hs2 hn w).mono ?_
  rintro r ws ⟨vS, rfl, hvs, hxs⟩
  obtain ⟨gs, cs, rfl, hcs1, hcs2, hgs, hcell⟩ := vals_row hvs hcp
  unfold maxLen at hcs2
  have HS := Lib.hid hcell
  have HXS := Lib.hid hxs
  have H0 := Lib.hid (H.out.ext hxs)
  clear hvs hxs hcell
  go_wp2_with fail
  go_loopw [7, 8, 9] (fun v7 v8 v9 wr => ∃ i : Nat, i ≤ cnt n s ∧ v9 = .int .i64 i ∧ v8 = .int .i64 ((min n (i * s) : Nat) : Int) ∧ Owns wr ws.heap.size 5 v7 (bv (fr zs s i)) ∧ Ext ws wr) (fun _ _ v9 _ => cnt n s - (intOf v9).toNat)
  case atStart => exact ⟨0, by omega, rfl, by simp, Owns.nil _ _ _, Ext.refl ws⟩
  case round =>
    obtain ⟨i, hi, rfl, rfl, hO, hX⟩ := hrel
    have HO := Lib.hid hO
    have HX := Lib.hid hX
    clear hO hX
    by_cases hlt : i < cnt n s
    · have hd : decide (i < cnt n s) = true := by simpa using hlt
      have hi0 : (0 : Int) ≤ (i : Int) := by omega
      have hi1 : (i : Int) < (cnt n s : Int) := by omega
      have q0 := HX.out.cell (HS.out i hlt)
      have hgr : gs < wr.heap.size := Nat.lt_of_lt_of_le hgs HX.out.size
      have HF := Lib.hid (fr_succ zs s i)
      have hti : i * s ≤ n := by rcases (cnt_iff n s i hs).1 hlt with h | h; (subst h; omega); omega
      have hkm : szAt n s i ≤ n - i * s := by unfold szAt; omega
      have hb := hdr_bd n s i hn
      have HST := Lib.hid (sum_step n s i)
      have hmin : min n (i * s) = i * s := by omega
      rw [hmin] at HST
      rw [hmin]
      have hz : ∀ z ∈ zs, (Lit.int .u8 z).wf = true := H.out.2.2.2.1
      have hl : zs.length ≤ 4096 := by rw [HNE.out]; exact hn
      have hfl := fr_len zs hl s i
      rw [HNE.out] at HF
      have hR2 : ∃ A, (A = if cap = i * s then a else a.map fun ad => ⟨ad.block, ad.off + i * s, none⟩) ∧ IsRow .u8 ws A (szAt n s i) (cap - i * s) ((zs.drop (i * s)).take (szAt n s i)) ∧ (A = none → cap - i * s = 0) := by
        refine ⟨_, rfl, ?_, ?_⟩
        · rcases ha with ⟨rfl, rfl⟩ | ⟨g, o, rfl⟩
          · have hn0 : n = 0 := by omega
            have hz0 : zs = [] := List.eq_nil_of_length_eq_zero (by rw [HNE.out]; exact hn0)
            have hk0 : szAt n s i = 0 := by omega
            rw [hk0, hz0]
            simp
            exact ⟨rfl, by omega, by unfold maxLen; omega, by simp, .inl rfl⟩
          · exact (H0.out.cut hti _ (fun hlt => by rw [if_neg (by omega)]; rfl)).head hkm
        · rcases ha with ⟨rfl, rfl⟩ | ⟨g, o, rfl⟩
          · intro _; omega
          · intro e
            split at e <;> simp at e
      obtain ⟨A, hAE, hA1, hA2⟩ := hR2
      have HAE := Lib.hid hAE
      have HA1 := Lib.hid hA1
      have HA2 := Lib.hid hA2
      clear hAE hA1 hA2
      have HPost := Lib.hid (show ∀ w2, w2 = wr.alloc (.cells #[.int .u8 (hdr n s i / 16777216), .int .u8 (hdr n s i / 65536 % 256), .int .u8 (hdr n s i / 256 % 256), .int .u8 (hdr n s i % 256)] 5) →
          ∃ v' w3 v'' w4, (Builtin.append_ #[22, 22] 22 #[_, .slice (some ⟨wr.heap.size, 0, none⟩) 4 4]).run Try.prog w2 = .ok v' w3 ∧ Ext ws w3 ∧ (Builtin.append_ #[22, 22] 22 #[v', .slice A (szAt n s i) (cap - i * s)]).run Try.prog w3 = .ok v'' w4 ∧ Owns w4 ws.heap.size 5 v'' (bv (fr zs s (i + 1))) ∧ Ext ws w4 from by
        rintro w2 rfl
        have hx2 : Ext wr (wr.alloc (.cells #[.int .u8 (hdr n s i / 16777216), .int .u8 (hdr n s i / 65536 % 256), .int .u8 (hdr n s i / 256 % 256), .int .u8 (hdr n s i % 256)] 5)) := (Ext.refl wr).alloc _
        obtain ⟨v', w3, h1, h2, h3⟩ := app_row (c := 4) (HO.out.ext hx2) (be4_row (hdr n s i) hb.1 hb.2 wr) (fun e => by cases e) (by rw [bv_len]; omega) (Nat.le_trans HX.out.size hx2.size) 22
        have x3 : Ext ws w3 := grown_ext h3 (HX.out.trans hx2) (fun g hg => (HO.out.lt hg).1)
        obtain ⟨v'', w4, h4, h5, h6⟩ := app_row (c := cap - i * s) h2 (HA1.out.ext x3) HA2.out (by rw [List.length_append, bv_len, bv_len]; simp [be4]; omega) x3.size 22
        refine ⟨v', w3, v'', w4, h1, x3, h4, ?_, grown_ext h6 x3 (fun g hg => (h2.lt hg).1)⟩
        rw [HF.out, bv_app, bv_app]
        exact h5)
      have HHD := Lib.hid (show hdr n s i = szAt n s i + (if i + 1 = cnt n s then 2147483648 else 0) from rfl)
      have HB := Lib.hid hb
      have HSi := Lib.hid (HS.out i hlt)
      clear hb hz hl hfl hmin
      generalize szAt n s i = k at *
      generalize i * s = t at *
      have hk4 : k ≤ 4096 := by omega
      by_cases hlast : i + 1 = cnt n s
      · have hdl : ((i : Int) == (cnt n s : Int) - 1) = true := by simp; omega
        have hE : hdr n s i = (k : Int) + 2147483648 := by rw [HHD.out, if_pos hlast]
        have hb' : 0 ≤ (k : Int) + 2147483648 ∧ (k : Int) + 2147483648 < 4294967296 := by omega
        rw [hE] at HPost
        clear hE
        go_wp2_with fail
        refine (refU32_any _ hb'.1 hb'.2 _).mono ?_
        rintro r w2 ⟨rfl, h2⟩
        obtain ⟨v', w3, v'', w4, p1, p2, p3, p4, p5⟩ := HPost.out w2 h2
        have P1 := Lib.hid p1
        have P3 := Lib.hid p3
        have P4 := Lib.hid p4
        have P5 := Lib.hid p5
        have c3 := p2.cell HSi.out
        have c4 := p5.cell HSi.out
        have z3 : gs < w3.heap.size := Nat.lt_of_lt_of_le hgs p2.size
        have z4 : gs < w4.heap.size := Nat.lt_of_lt_of_le hgs p5.size
        clear p1 p2 p3 p4 p5 HPost h2 q0
        rcases ha with ⟨rfl, hcap⟩ | ⟨g, o, rfl⟩
        · have hA : A = none := by have := HAE.out; simpa using this
          subst hA
          have hc0 : cap ≤ 0 := by omega
          have b1 : t + k ≤ cap := by omega
          have b2 : t ≤ t + k := by omega
          clear hcap
          go_wp2_with (first | (at_builtin; refine wpList_append_run rfl (.tmp 41) (.tmp 43) _ rfl _ _ _ rfl rfl P1.out ?_) | (at_builtin; refine wpList_append_run rfl (.tmp 45) (.tmp 54) _ rfl _ _ _ rfl ?_ P3.out ?_))
          · go_simp <;> omega
          · go_roundw
            case rel => exact ⟨i + 1, by omega, by go_num, by rw [← HST.out]; go_num, P4.out, P5.out⟩
            case measure => simp [intOf]; omega
        · have hA := HAE.out
          simp only [Option.map_some] at hA
          subst hA
          have b1 : t + k ≤ cap := by omega
          have b2 : t ≤ t + k := by omega
          by_cases hct : cap = t
          · subst hct
            rw [if_pos rfl, Nat.sub_self] at P3
            go_wp2_with (first | (at_builtin; refine wpList_append_run rfl (.tmp 41) (.tmp 43) _ rfl _ _ _ rfl rfl P1.out ?_) | (at_builtin; refine wpList_append_run rfl (.tmp 45) (.tmp 54) _ rfl _ _ _ rfl ?_ P3.out ?_))
            · go_simp <;> omega
            · go_roundw
              case rel => exact ⟨i + 1, by omega, by go_num, by rw [← HST.out]; go_num, P4.out, P5.out⟩
              case measure => simp [intOf]; omega
          · rw [if_neg hct] at P3
            go_wp2_with (first | (at_builtin; refine wpList_append_run rfl (.tmp 41) (.tmp 43) _ rfl _ _ _ rfl rfl P1.out ?_) | (at_builtin; refine wpList_append_run rfl (.tmp 45) (.tmp 54) _ rfl _ _ _ rfl ?_ P3.out ?_))
            · go_simp <;> omega
            · go_roundw
              case rel => exact ⟨i + 1, by omega, by go_num, by rw [← HST.out]; go_num, P4.out, P5.out⟩
              case measure => simp [intOf]; omega
      · have hdl : ((i : Int) == (cnt n s : Int) - 1) = false := by simp; omega
        have hE : hdr n s i = (k : Int) := by rw [HHD.out, if_neg hlast, Int.add_zero]
        have hb' : 0 ≤ (k : Int) ∧ (k : Int) < 4294967296 := by omega
        rw [hE] at HPost
        clear hE
        go_wp2_with fail
        refine (refU32_any _ hb'.1 hb'.2 _).mono ?_
        rintro r w2 ⟨rfl, h2⟩
        obtain ⟨v', w3, v'', w4, p1, p2, p3, p4, p5⟩ := HPost.out w2 h2
        have P1 := Lib.hid p1
        have P3 := Lib.hid p3
        have P4 := Lib.hid p4
        have P5 := Lib.hid p5
        have c3 := p2.cell HSi.out
        have c4 := p5.cell HSi.out
        have z3 : gs < w3.heap.size := Nat.lt_of_lt_of_le hgs p2.size
        have z4 : gs < w4.heap.size := Nat.lt_of_lt_of_le hgs p5.size
        clear p1 p2 p3 p4 p5 HPost h2 q0
        rcases ha with ⟨rfl, hcap⟩ | ⟨g, o, rfl⟩
        · have hA : A = none := by have := HAE.out; simpa using this
          subst hA
          have hc0 : cap ≤ 0 := by omega
          have b1 : t + k ≤ cap := by omega
          have b2 : t ≤ t + k := by omega
          clear hcap
          go_wp2_with (first | (at_builtin; refine wpList_append_run rfl (.tmp 41) (.tmp 43) _ rfl _ _ _ rfl rfl P1.out ?_) | (at_builtin; refine wpList_append_run rfl (.tmp 45) (.tmp 54) _ rfl _ _ _ rfl ?_ P3.out ?_))
          · go_simp <;> omega
          · go_roundw
            case rel => exact ⟨i + 1, by omega, by go_num, by rw [← HST.out]; go_num, P4.out, P5.out⟩
            case measure => simp [intOf]; omega
        · have hA := HAE.out
          simp only [Option.map_some] at hA
          subst hA
          have b1 : t + k ≤ cap := by omega
          have b2 : t ≤ t + k := by omega
          by_cases hct : cap = t
          · subst hct
            rw [if_pos rfl, Nat.sub_self] at P3
            go_wp2_with (first | (at_builtin; refine wpList_append_run rfl (.tmp 41) (.tmp 43) _ rfl _ _ _ rfl rfl P1.out ?_) | (at_builtin; refine wpList_append_run rfl (.tmp 45) (.tmp 54) _ rfl _ _ _ rfl ?_ P3.out ?_))
            · go_simp <;> omega
            · go_roundw
              case rel => exact ⟨i + 1, by omega, by go_num, by rw [← HST.out]; go_num, P4.out, P5.out⟩
              case measure => simp [intOf]; omega
          · rw [if_neg hct] at P3
            go_wp2_with (first | (at_builtin; refine wpList_append_run rfl (.tmp 41) (.tmp 43) _ rfl _ _ _ rfl rfl P1.out ?_) | (at_builtin; refine wpList_append_run rfl (.tmp 45) (.tmp 54) _ rfl _ _ _ rfl ?_ P3.out ?_))
            · go_simp <;> omega
            · go_roundw
              case rel => exact ⟨i + 1, by omega, by go_num, by rw [← HST.out]; go_num, P4.out, P5.out⟩
              case measure => simp [intOf]; omega
    · have hd : decide (i < cnt n s) = false := by simpa using hlt
      obtain rfl : i = cnt n s := by omega
      go_wp2_with fail
      refine bodyPost_ret (v := .tuple #[_, .int .i64 0]) (by simp [results, Try.results21, go_sem]) rfl ⟨_, rfl, HO.out.low HXS.out.size, HXS.out.trans HX.out⟩
end Go.Proofs.Ytpgbocdcjlcelaa
