/- Reading number by number: Errno, slices.Contains, next. -/
import Derived.Test.YtcnbgcoklbmdaaaDoorXr
import Derived.Test.YtcnbgcoklbmdaaaDoorRp1
namespace Go.Proofs.YtcnbgcoklbmdaaaDoor
open Go.ChangeShapes Go.WideShapes Go.ChangeAt Go.RowKit

theorem errno_any (g : Nat) (e : Int) (zs : List Int) (w : World) (h : RdW w g e zs) :
    Calls Tryd.prog 27 #[.pointer (some ⟨g, 0, none⟩)] w fun r w' => r = .returned (.int .i64 e) ∧ w = w' := by
  obtain ⟨a, c, h1, _, _⟩ := h
  have hg := lt_of_heap h1
  obtain ⟨c0, c1, f0, f1⟩ := blk2 h1
  clear h1
  go_enter Tryd.func27, Tryd.ntmps27
  go_wp2_with fail
  go_ret
  exact ⟨rfl, rfl⟩
def IsIdx (l : List Int) (x : Int) (k : Int) : Prop := -1 ≤ k ∧ k ≤ 100 ∧ (0 ≤ k ↔ x ∈ l)
theorem index_any (a : Option Addr) (n c : Nat) (l : List Int) (hn : n ≤ 100) (x : Int) (w : World) (h : IsRow .u32 w a n c l) :
    Calls Tryd.prog 35 #[.slice a n c, .int .u32 x] w fun r w' => ∃ k, IsIdx l x k ∧ r = .returned (.int .i64 k) ∧ w = w' := by
  have hl := h.1
  have hcm := h.2.2.1
  have hlc := h.2.1
  unfold maxLen at hcm
  have H := Lib.hid h
  have HL := Lib.hid hl
  clear h hl
  go_enter Tryd.func35, Tryd.ntmps35
  go_wp2_with fail
  go_loop [8] (fun v8 => ∃ i : Nat, i ≤ n ∧ v8 = .int .i64 i ∧ x ∉ l.take i) (fun v8 => n - (intOf v8).toNat)
  case atStart => exact ⟨0, by omega, rfl, by simp⟩
  case round =>
    obtain ⟨i, hi, rfl, hx⟩ := hrel
    have HX := Lib.hid hx
    clear hx
    by_cases hlt : i < n
    · have hd : decide (i < n) = true := by simpa using hlt
      have hi0 : (0 : Int) ≤ (i : Int) := by omega
      have hi1 : (i : Int) < (n : Int) := by omega
      obtain ⟨g, o, rfl, q⟩ := H.out.at_ hlt
      have hil : i < l.length := by rw [HL.out]; exact hlt
      have HT := Lib.hid (show l.take (i + 1) = l.take i ++ [l.getD i 0] by
        rw [List.take_succ_eq_append_getElem hil]; simp [List.getD, List.getElem?_eq_getElem hil])
      have HM := Lib.hid (show l.getD i 0 ∈ l by simp [List.getD, List.getElem?_eq_getElem hil])
      generalize l.getD i 0 = y at *
      clear hil
      by_cases hxy : x = y
      · subst hxy
        go_wp2_with fail
        go_ret
        exact ⟨i, ⟨by omega, by omega, ⟨fun _ => HM.out, fun _ => by omega⟩⟩, rfl, rfl⟩
      · have hd2 : (x == y) = false := by simpa using hxy
        go_wp2_with fail
        go_round
        case rel => exact ⟨i + 1, by omega, by go_num, by rw [HT.out]; simp [hxy]; exact HX.out⟩
        case measure => simp [intOf]; omega
    · have hd : decide (i < n) = false := by simpa using hlt
      have hE : l.take i = l := List.take_of_length_le (by rw [HL.out]; omega)
      rw [hE] at HX
      clear hE
      go_wp2_with fail
      go_ret
      exact ⟨-1, ⟨by omega, by omega, ⟨fun h => by omega, fun h => absurd h HX.out⟩⟩, rfl, rfl⟩
theorem contains_any (a : Option Addr) (n c : Nat) (l : List Int) (hn : n ≤ 100) (x : Int) (w : World) (h : IsRow .u32 w a n c l) :
    Calls Tryd.prog 28 #[.slice a n c, .int .u32 x] w fun r w' => r = .returned (.bool (decide (x ∈ l))) ∧ w = w' := by
  have H := Lib.hid (index_any a n c l hn x w h)
  clear h
  go_enter Tryd.func28, Tryd.ntmps28
  go_wp2_with fail
  refine H.out.mono ?_
  rintro r w' ⟨k, hk, rfl, rfl⟩
  have HK := Lib.hid hk
  clear hk
  by_cases hx : x ∈ l
  · have hd : decide (x ∈ l) = true := by simpa using hx
    have hk : decide (0 ≤ k) = true := by have := HK.out.2.2.2 hx; simpa using this
    have HD := Lib.hid hd
    clear hx hd
    go_wp2_with fail
    go_ret
    exact ⟨by rw [HD.out]; rfl, rfl⟩
  · have hd : decide (x ∈ l) = false := by simpa using hx
    have hk : decide (0 ≤ k) = false := by have := fun h => hx (HK.out.2.2.1 h); simpa using this
    have HD := Lib.hid hd
    clear hx hd
    go_wp2_with fail
    go_ret
    exact ⟨by rw [HD.out]; rfl, rfl⟩

/-- What is wrong, at a place: none, or in a block of its own. -/
def FaultIs (w : World) (fv : Value) (gr gx : Nat) : Option (Int × Int) → Prop
  | none => fv = .pointer none
  | some (n, p) => ∃ gf, fv = .pointer (some ⟨gf, 0, none⟩) ∧ w.heap[gf]? = some (.cells #[.int .i64 n, .int .i64 p] 49 (0, 0)) ∧ gf ≠ gr ∧ gf ≠ gx
/-- A reading: what is left, the place, what is wrong. -/
structure GdW (w : World) (gr gx : Nat) (zs : List Int) (k : Nat) (f : Option (Int × Int)) (fv : Value) : Prop where
  blk : w.heap[gr]? = some (.cells #[.pointer (some ⟨gx, 0, none⟩), .int .i64 k, fv] 61 (0, 0))
  ne : gr ≠ gx
  rd : ∃ e, RdW w gx e zs ∧ (f = none → e = 0)
  fault : FaultIs w fv gr gx f
theorem FaultIs.keep {w w' : World} {fv : Value} {gr gx : Nat} {f : Option (Int × Int)} (h : FaultIs w fv gr gx f) (hk : ∀ g o, w.heap[g]? = some o → g ≠ gr → g ≠ gx → w'.heap[g]? = some o) : FaultIs w' fv gr gx f := by
  cases f with
  | none => exact h
  | some p =>
    obtain ⟨n, p⟩ := p
    obtain ⟨gf, h1, h2, h3, h4⟩ := h
    exact ⟨gf, h1, hk gf _ h2 h3 h4, h3, h4⟩
theorem GdW.ext {w w' : World} {gr gx : Nat} {zs : List Int} {k : Nat} {f : Option (Int × Int)} {fv : Value} (h : GdW w gr gx zs k f fv) (hx : Ext w w') : GdW w' gr gx zs k f fv := by
  obtain ⟨e, h1, h2⟩ := h.rd
  exact ⟨hx.heap h.blk, h.ne, ⟨e, h1.ext hx, h2⟩, h.fault.keep fun g o hg _ _ => hx.heap hg⟩
theorem RdW.upd {S : List Nat} {w w' : World} {g : Nat} {e : Int} {zs : List Int} (h : RdW w g e zs) (hx : Upd S w w') (hg : g ∉ S) (hs : ∀ b i z, w.cell? ⟨b, i, none⟩ = some (.int .u8 z) → b ∉ S) : RdW w' g e zs := by
  obtain ⟨a, c, h1, h2, h3⟩ := h
  exact ⟨a, c, hx.heap h1 hg, h2.upd hx hs, h3⟩
/-- The next number, one of l (of all, if l is empty): it, what is left, the place, what is wrong. -/
def stepN (l : List Int) (zs : List Int) (k : Nat) : Option (Int × Int) → Int × List Int × Nat × Option (Int × Int)
  | some p => (0, zs, k, some p)
  | none => if zs.length < 4 then (0, [], k, some (3, (k : Int))) else if l = [] ∨ val (zs.take 4) ∈ l then (val (zs.take 4), zs.drop 4, k + 4, none) else (0, zs.drop 4, k, some (2, (k : Int)))
theorem stepN_bd {l zs : List Int} {k : Nat} {f : Option (Int × Int)} (hz : ∀ z ∈ zs, (Lit.int .u8 z).wf = true) : 0 ≤ (stepN l zs k f).1 ∧ (stepN l zs k f).1 < 4294967296 ∧ (∀ z ∈ (stepN l zs k f).2.1, (Lit.int .u8 z).wf = true) ∧ (stepN l zs k f).2.2.1 ≤ k + 4 := by
  unfold stepN
  split
  · exact ⟨by simp, by simp, hz, by simp⟩
  · split
    · exact ⟨by simp, by simp, by simp, by simp⟩
    · next h =>
      have hv := val_bd hz 4 (by omega)
      split
      · exact ⟨hv.1, hv.2, fun z hm => hz z (List.mem_of_mem_drop hm), by simp⟩
      · exact ⟨by simp, by simp, fun z hm => hz z (List.mem_of_mem_drop hm), by simp⟩
theorem put_fault {w : World} {gr gx : Nat} {zs : List Int} {k : Nat} {e : Int} {fv : Value} (hb : w.heap[gr]? = some (.cells #[.pointer (some ⟨gx, 0, none⟩), .int .i64 k, fv] 61 (0, 0))) (hne : gr ≠ gx) (hr : RdW w gx e zs) (hfv : ∀ z, fv ≠ .int .u8 z) (m : Int) :
    (∃ fv', GdW ((w.setCell ⟨gr, 2, none⟩ (.pointer (some ⟨w.heap.size, 0, none⟩))).alloc (.cells #[.int .i64 m, .int .i64 k] 49)) gr gx zs k (some (m, (k : Int))) fv') ∧
      Upd [gr, gx] w ((w.setCell ⟨gr, 2, none⟩ (.pointer (some ⟨w.heap.size, 0, none⟩))).alloc (.cells #[.int .i64 m, .int .i64 k] 49)) := by
  have u : Upd [gr] w (w.setCell ⟨gr, 2, none⟩ (.pointer (some ⟨w.heap.size, 0, none⟩))) := (Upd.refl _ _).setCell _ _ (by simp)
  have hb2 := heap_setCell_same _ gr 2 _ _ (.pointer (some ⟨w.heap.size, 0, none⟩)) hb
  have hsz : (w.setCell ⟨gr, 2, none⟩ (.pointer (some ⟨w.heap.size, 0, none⟩))).heap.size = w.heap.size := by simp [World.setCell]
  have hr2 : RdW (w.setCell ⟨gr, 2, none⟩ (.pointer (some ⟨w.heap.size, 0, none⟩))) gx e zs := hr.upd u (by simpa using fun e => hne e.symm) (fun b i z h => by
    simp only [List.mem_singleton]
    intro e
    subst e
    rw [cell_of hb] at h
    match i with
    | 0 => simp at h
    | 1 => simp at h
    | 2 => simp at h; exact hfv z h
    | i + 3 => simp at h)
  have l1 := lt_of_heap hb
  have l2 := hr.lt
  generalize w.setCell ⟨gr, 2, none⟩ (.pointer (some ⟨w.heap.size, 0, none⟩)) = w1 at *
  have hx : Ext w1 (w1.alloc (.cells #[.int .i64 m, .int .i64 k] 49)) := (Ext.refl w1).alloc _
  refine ⟨⟨_, hx.heap hb2, hne, ⟨e, hr2.ext hx, fun h => by cases h⟩, ⟨w.heap.size, rfl, ?_, by omega, by omega⟩⟩, (u.mono (by simp)).trans (hx.upd _)⟩
  rw [← hsz]
  exact heap_alloc_new w1 _
set_option maxHeartbeats 1000000 in
theorem next_any (gr gx : Nat) (zs : List Int) (k : Nat) (hk : k ≤ 1000) (f : Option (Int × Int)) (fv : Value) (a : Option Addr) (n c : Nat) (l : List Int) (hn : n ≤ 100) (w : World) (h : GdW w gr gx zs k f fv) (hl : IsRow .u32 w a n c l) (hla : ∀ g o, a = some ⟨g, o, none⟩ → g ≠ gx ∧ g ≠ gr) :
    Calls Tryd.prog 20 #[.pointer (some ⟨gr, 0, none⟩), .slice a n c] w fun r w' => r = .returned (.int .u32 (stepN l zs k f).1) ∧ (∃ fv', GdW w' gr gx (stepN l zs k f).2.1 (stepN l zs k f).2.2.1 (stepN l zs k f).2.2.2 fv') ∧ Upd [gr, gx] w w' := by
  obtain ⟨hb, hne, ⟨e, hrd, he⟩, hf⟩ := h
  have hg := lt_of_heap hb
  obtain ⟨c0, c1, c2, f0, f1, f2⟩ := blk3 hb
  cases f with
  | some p =>
    obtain ⟨m, p⟩ := p
    obtain ⟨gf, rfl, hgf, hn1, hn2⟩ := hf
    have HG := Lib.hid (show GdW w gr gx zs k (some (m, p)) (.pointer (some ⟨gf, 0, none⟩)) from ⟨hb, hne, ⟨e, hrd, he⟩, ⟨gf, rfl, hgf, hn1, hn2⟩⟩)
    clear hb hne hrd he hgf hn1 hn2 hl hla
    go_enter Tryd.func20, Tryd.ntmps20
    go_wp2_with fail
    go_ret
    exact ⟨rfl, ⟨_, HG.out⟩, Upd.refl _ _⟩
  | none =>
    obtain rfl : fv = .pointer none := hf
    obtain rfl : e = 0 := he rfl
    have HB := Lib.hid hb
    by_cases hz : zs.length < 4
    · have HE := Lib.hid (show stepN l zs k none = (0, [], k, some (3, (k : Int))) by unfold stepN; rw [if_pos hz])
      have HU := Lib.hid (u32r_short gx zs hz w hrd)
      clear hb hrd he hl hla
      go_enter Tryd.func20, Tryd.ntmps20
      go_wp2_with fail
      refine HU.out.mono ?_
      rintro r w1 ⟨rfl, hr1, hu1⟩
      have hb1 := hu1.heap HB.out (by simpa using hne)
      have hg1 := lt_of_heap hb1
      obtain ⟨d0, d1, d2, e0, e1, e2⟩ := blk3 hb1
      have HR1 := Lib.hid hr1
      have HU1 := Lib.hid hu1
      have HB1 := Lib.hid hb1
      clear hr1 hu1 hb1 c0 c1 c2 f0 f1 f2
      go_wp2_with fail
      refine (errno_any gx 3 [] w1 HR1.out).mono ?_
      rintro r w2 ⟨rfl, rfl⟩
      go_wp2_with fail
      go_ret
      have hp := put_fault HB1.out hne HR1.out (by simp) 3
      rw [HE.out]
      exact ⟨rfl, hp.1, (HU1.out.mono (by simp)).trans hp.2⟩
    · have hz4 : 4 ≤ zs.length := by omega
      have HU := Lib.hid (u32r_ok gx zs hz4 w hrd)
      have HL := Lib.hid hl
      have hln := hl.1
      have hcm := hl.2.2.1
      have hlc := hl.2.1
      unfold maxLen at hcm
      have HLA := Lib.hid hla
      have HE := Lib.hid (show stepN l zs k none = if l = [] ∨ val (zs.take 4) ∈ l then (val (zs.take 4), zs.drop 4, k + 4, none) else (0, zs.drop 4, k, some (2, (k : Int))) by unfold stepN; rw [if_neg hz])
      have HLN := Lib.hid hln
      clear hb hrd he hl hla hln
      generalize val (zs.take 4) = v at *
      generalize zs.drop 4 = z4 at *
      go_enter Tryd.func20, Tryd.ntmps20
      go_wp2_with fail
      refine HU.out.mono ?_
      rintro r w1 ⟨rfl, hr1, hu1⟩
      have hb1 := hu1.heap HB.out (by simpa using hne)
      have hg1 := lt_of_heap hb1
      obtain ⟨d0, d1, d2, e0, e1, e2⟩ := blk3 hb1
      have HR1 := Lib.hid hr1
      have HU1 := Lib.hid hu1
      have HB1 := Lib.hid hb1
      have HC := Lib.hid (contains_any a n c l hn v w1 (HL.out.updB hu1 (fun g o h => by simpa using (HLA.out g o h).1)))
      clear hr1 hu1 hb1 c0 c1 c2 f0 f1 f2
      go_wp2_with fail
      refine (errno_any gx 0 z4 w1 HR1.out).mono ?_
      rintro r w2 ⟨rfl, rfl⟩
      have hok : ∀ W, W = w1.setCell ⟨gr, 1, none⟩ (.int .i64 ((k : Int) + 4)) → GdW W gr gx z4 (k + 4) none (.pointer none) ∧ Upd [gr, gx] w W := by
        rintro W rfl
        have u : Upd [gr] w1 (w1.setCell ⟨gr, 1, none⟩ (.int .i64 ((k : Int) + 4))) := (Upd.refl _ _).setCell _ _ (by simp)
        have hb2 := heap_setCell_same _ gr 1 _ _ (.int .i64 ((k : Int) + 4)) HB1.out
        refine ⟨⟨hb2, hne, ⟨0, HR1.out.upd u (by simpa using fun e => hne e.symm) (fun b i z h => by
          simp only [List.mem_singleton]
          intro e
          subst e
          rw [cell_of HB1.out] at h
          match i with
          | 0 => simp at h
          | 1 => simp at h
          | 2 => simp at h
          | i + 3 => simp at h), fun _ => rfl⟩, rfl⟩, (HU1.out.mono (by simp)).trans (u.mono (by simp))⟩
      have HOK := Lib.hid hok
      clear hok
      by_cases hn0 : n = 0
      · have hd : decide (0 < n) = false := by simp; omega
        have hd2 : decide ((0 : Int) < (n : Int)) = false := by simp; omega
        have hl0 : l = [] := List.eq_nil_of_length_eq_zero (by rw [HLN.out]; exact hn0)
        have hE := HE.out
        rw [if_pos (.inl hl0)] at hE
        have HE2 := Lib.hid hE
        clear hE hl0 hn0
        go_wp2_with fail
        go_ret
        have hp := HOK.out _ rfl
        rw [HE2.out]
        exact ⟨rfl, ⟨_, hp.1⟩, hp.2⟩
      · have hd : decide (0 < n) = true := by simp; omega
        have hd2 : decide ((0 : Int) < (n : Int)) = true := by simp; omega
        have hl0 : l ≠ [] := fun e => hn0 (by rw [← HLN.out, e]; rfl)
        by_cases hv : v ∈ l
        · have hE := HE.out
          rw [if_pos (.inr hv)] at hE
          have HE2 := Lib.hid hE
          have hdv : decide (v ∈ l) = true := by simpa using hv
          rw [hdv] at HC
          clear hE hl0 hv hdv
          go_wp2_with fail
          refine HC.out.mono ?_
          rintro r w2 ⟨rfl, rfl⟩
          go_wp2_with fail
          go_ret
          have hp := HOK.out _ rfl
          rw [HE2.out]
          exact ⟨rfl, ⟨_, hp.1⟩, hp.2⟩
        · have hE := HE.out
          rw [if_neg (by rintro (h | h); exact hl0 h; exact hv h)] at hE
          have HE2 := Lib.hid hE
          have hdv : decide (v ∈ l) = false := by simpa using hv
          rw [hdv] at HC
          clear hE hl0 hv hdv
          go_wp2_with fail
          refine HC.out.mono ?_
          rintro r w2 ⟨rfl, rfl⟩
          go_wp2_with fail
          go_ret
          have hp := put_fault HB1.out hne HR1.out (by simp) 2
          rw [HE2.out]
          exact ⟨rfl, hp.1, (HU1.out.mono (by simp)).trans hp.2⟩
end Go.Proofs.YtcnbgcoklbmdaaaDoor
