/- A row of bools that came in; a row of handles of the call's own; the walk of the law InodeStale. -/
import Derived.Test.YtmdacpkkglhefaaIno2
import Derived.Deep.Grids
import Derived.Maps.AppendAt
namespace Go.Proofs.Ytmdacpkkglhefaa
open Go.ChangeShapes Go.WideShapes Go.ChangeAt Go.RowKit

/-- The slice value (a, len, cap) holds the bools B. -/
def IsBits (w : World) (a : Option Addr) (len cap : Nat) (B : Nat → Bool) : Prop :=
  len ≤ cap ∧ cap ≤ maxLen ∧ (len = 0 ∨ ∃ g o, a = some ⟨g, o, none⟩ ∧ ∀ i, i < len → w.cell? ⟨g, o + i, none⟩ = some (.bool (B i)))
theorem IsBits.of_trod {H : Type} {enc : TypeId × Value → H} {P : Program} {W : World} {t e : TypeId} {a : Option Addr} {len cap : Nat} {d : DataW H} {p : List MemPlace}
    (ht : P.underlying t = some (.slice e)) (he : P.underlying e = some .bool) (hc : P.cellsOf e = 1)
    (h : DataW.Trod enc P W 0 (fun _ => true) true t (.slice a len cap) d p) : ∃ B, IsBits W a len cap B := by
  obtain ⟨fuel, hf⟩ := h
  rcases Go.Deep.open_bools ht he hc hf with ⟨hcs, _⟩ | ⟨x, l, c, B, hcs, _, hl, hm, _, hcell⟩
  · simp [Value.cells] at hcs
    obtain ⟨rfl, rfl, rfl⟩ := hcs
    exact ⟨fun _ => false, by omega, by unfold maxLen; omega, .inl rfl⟩
  · simp [Value.cells] at hcs
    obtain ⟨rfl, rfl, rfl⟩ := hcs
    refine ⟨B, hl, hm, ?_⟩
    rcases Nat.eq_zero_or_pos len with h0 | h0
    · exact .inl h0
    · obtain ⟨b, off, spot⟩ := x
      have hspot : spot = none := by simpa [Addr.add] using World.cell?_spot (hcell 0 (by omega))
      subst hspot
      exact .inr ⟨b, off, rfl, fun i hi => by rw [← Go.WideShapes.add_plain]; exact hcell i (by omega)⟩
theorem IsBits.ext {w w' : World} {a : Option Addr} {len cap : Nat} {B : Nat → Bool} (h : IsBits w a len cap B) (hx : Ext w w') : IsBits w' a len cap B := by
  obtain ⟨h2, h3, h5⟩ := h
  refine ⟨h2, h3, ?_⟩
  rcases h5 with h5 | ⟨g, o, h6, h7⟩
  · exact .inl h5
  · exact .inr ⟨g, o, h6, fun i hi => hx.cell (h7 i hi)⟩
theorem IsBits.at_ {w : World} {a : Option Addr} {len cap : Nat} {B : Nat → Bool} (h : IsBits w a len cap B) {i : Nat} (hi : i < len) :
    ∃ g o, a = some ⟨g, o, none⟩ ∧ w.cell? ⟨g, o + i, none⟩ = some (.bool (B i)) := by
  rcases h.2.2 with h5 | ⟨g, o, h6, h7⟩
  · omega
  · exact ⟨g, o, h6, h7 i hi⟩

/-- The handles of the first k places, two cells each. -/
def hcells (k : Nat) : List Value := (List.range k).flatMap fun j : Nat => [.int .i64 (j + 1), .int .i64 1]
theorem hcells_succ (k : Nat) : hcells (k + 1) = hcells k ++ [.int .i64 (k + 1), .int .i64 1] := by simp [hcells, List.range_succ]
theorem hcells_len (k : Nat) : (hcells k).length = k * 2 := by
  induction k with
  | zero => rfl
  | succ k ih => rw [hcells_succ, List.length_append, ih]; simp; omega
theorem hcells_at {k j : Nat} (h : j < k) : (hcells k)[j * 2]? = some (.int .i64 (j + 1)) ∧ (hcells k)[j * 2 + 1]? = some (.int .i64 1) := by
  induction k with
  | zero => omega
  | succ k ih =>
    rw [hcells_succ]
    by_cases hj : j < k
    · rw [List.getElem?_append_left (by rw [hcells_len]; omega), List.getElem?_append_left (by rw [hcells_len]; omega)]
      exact ih hj
    · obtain rfl : j = k := by omega
      rw [List.getElem?_append_right (by rw [hcells_len]; omega), List.getElem?_append_right (by rw [hcells_len]; omega), hcells_len]
      simp
def Hands (w : World) (base : Nat) (v : Value) (k : Nat) : Prop := w.ownsRow base 29 2 v k (hcells k)
theorem Hands.ext {w w' : World} {base : Nat} {v : Value} {k : Nat} (h : Hands w base v k) (hx : Ext w w') : Hands w' base v k := by
  refine ⟨h.1, ?_⟩
  rcases h.2 with hn | ⟨g, cap, cur, hv, hb, hg, rest⟩
  · exact .inl hn
  · exact .inr ⟨g, cap, cur, hv, hb, hx.heap hg, rest⟩
theorem Hands.upd {S : List Nat} {w w' : World} {base : Nat} {v : Value} {k : Nat} (h : Hands w base v k) (hx : Upd S w w') (hs : ∀ g ∈ S, g < base) : Hands w' base v k := by
  refine ⟨h.1, ?_⟩
  rcases h.2 with hn | ⟨g, cap, cur, hv, hb, hg, rest⟩
  · exact .inl hn
  · exact .inr ⟨g, cap, cur, hv, hb, hx.heap hg (fun hm => by have := hs g hm; omega), rest⟩
theorem Hands.cell {w : World} {base : Nat} {v : Value} {k : Nat} (h : Hands w base v k) {j : Nat} (hj : j < k) :
    ∃ g cap, v = .slice (some ⟨g, 0, none⟩) k cap ∧ base ≤ g ∧ g < w.heap.size ∧ k ≤ cap ∧ cap ≤ maxLen ∧ w.cell? ⟨g, j * 2, none⟩ = some (.int .i64 (j + 1)) ∧ w.cell? ⟨g, j * 2 + 1, none⟩ = some (.int .i64 1) := by
  rcases h.2 with ⟨_, h0⟩ | ⟨g, cap, cur, hv, hb, hg, hn, hm, hs, ht⟩
  · omega
  · have key : ∀ i, i < k * 2 → w.cell? ⟨g, i, none⟩ = (hcells k)[i]? := fun i hi => by
      rw [cell_of hg i, ← ht, List.getElem?_take, if_pos hi]; simp
    obtain ⟨q0, q1⟩ := hcells_at hj
    exact ⟨g, cap, hv, hb, lt_of_heap hg, hn, hm, (key _ (by omega)).trans q0, (key _ (by omega)).trans q1⟩
theorem infoH : (Try.prog.info? 29).map (fun i => (i.zero, i.size, i.bytes)) = some (some (.agg #[.int .i64 0, .int .i64 0]), 2, 16) := by kernel_rfl
theorem Hands.append {w : World} {base : Nat} {v : Value} {k : Nat} (h : Hands w base v k) (hk : k ≤ 100) (hb : base ≤ w.heap.size) (ty : TypeId) :
    ∃ v' w', (Builtin.append_ #[38, 38] ty #[v, .slice (some ⟨w.heap.size, 0, none⟩) 1 1]).run Try.prog (w.alloc (.cells #[.int .i64 (k + 1), .int .i64 1] 29)) = .ok v' w' ∧ Hands w' base v' (k + 1) ∧
      (w.alloc (.cells #[.int .i64 (k + 1), .int .i64 1] 29)).grownBy w' v.ownBlock := by
  obtain ⟨i0, hi, hz0, hz1, hz2⟩ := info_parts infoH
  obtain ⟨v', w', hrun, hown, hg, _, _⟩ := run_append_own_at (P := Try.prog) (w.alloc (.cells #[.int .i64 (k + 1), .int .i64 1] 29)) base 38 ty 29 i0 _ 2 16 Try.underlying38 hi hz0 hz1 hz2 rfl (by decide) v k (hcells k) (World.ownsRow.alloc h _) ⟨w.heap.size, 0, none⟩ 1 1 [.int .i64 (k + 1), .int .i64 1] rfl
    (fun j u hj => by
      match j with
      | 0 => simp at hj; subst hj; simp [Addr.add]
      | 1 => simp at hj; subst hj; simp [Addr.add]
      | j + 2 => simp at hj) (by simp [Value.oneCell']) (by unfold maxLen; omega) (by omega) (by simp; omega)
  refine ⟨v', w', hrun, ?_, hg⟩
  unfold Hands
  rw [hcells_succ]
  exact hown
theorem Hands.own {w : World} {base : Nat} {v : Value} {k : Nat} (h : Hands w base v k) : ∀ g, v.ownBlock = some g → base ≤ g := fun g hg => (World.ownsRow.lt h g hg).1

namespace inoI
/-- The place a had something, which was taken away; i further ones came. -/
def Past (a i : Nat) (ps : List Pl) : Prop := ps.length = 10 ∧ ∀ j (h : j < ps.length), 0 ≤ ps[j].gen ∧ ps[j].gen ≤ i + 1 ∧ (j = a → 1 ≤ ps[j].gen ∧ (ps[j].is = true → 2 ≤ ps[j].gen))
theorem Past.stale {a i : Nat} {ps : List Pl} (h : Past a i ps) : Stale ps (a + 1) 1 := fun j hj e his hg => by
  have h1 := (h.2 j hj).2.2 (by omega)
  have := h1.2 his
  omega
theorem Past.first (f : Nat → Int) (a k : Nat) : Past a 0 ((filled f k 10).set a ⟨false, 1, 0⟩) := by
  refine ⟨by rw [List.length_set, filled_len], fun j hj => ?_⟩
  rw [List.getElem_set]
  by_cases h : a = j
  · rw [if_pos h]; simp
  · rw [if_neg h, filled_at]
    by_cases hjk : j < k
    · rw [if_pos hjk]; simp; omega
    · rw [if_neg hjk]; simp [Pl.zero]; omega
theorem Past.add {a i m : Nat} {ps : List Pl} (h : Past a i ps) (hm : m < ps.length) (x : Int) (b : Bool) : Past a (i + 1) (ps.set m ⟨b, ps[m].gen + 1, x⟩) := by
  refine ⟨by rw [List.length_set]; exact h.1, fun j hj => ?_⟩
  have hj' : j < ps.length := by simpa using hj
  have h1 := h.2 j hj'
  rw [List.getElem_set]
  by_cases e : m = j
  · subst e
    rw [if_pos rfl]
    refine ⟨by simp; omega, by simp; omega, fun ea => ?_⟩
    have := (h1.2.2 ea).1
    exact ⟨by simp; omega, fun _ => by simp; omega⟩
  · rw [if_neg e]
    exact ⟨h1.1, by have := h1.2.1; omega, h1.2.2⟩
theorem Past.next {a i : Nat} {ps : List Pl} (h : Past a i ps) : Past a (i + 1) ps := ⟨h.1, fun j hj => ⟨(h.2 j hj).1, by have := (h.2 j hj).2.1; omega, (h.2 j hj).2.2⟩⟩
theorem first_free : ∀ ps : List Pl, (∃ m, ∃ hm : m < ps.length, ps[m].is = false ∧ ∀ j (hj : j < ps.length), j < m → ps[j].is = true) ∨ ∀ j (hj : j < ps.length), ps[j].is = true
  | [] => .inr fun j hj => by simp at hj
  | p :: ps => by
    cases hp : p.is
    · exact .inl ⟨0, by simp, hp, fun j hj h => by omega⟩
    · rcases first_free ps with ⟨m, hm, h1, h2⟩ | h
      · refine .inl ⟨m + 1, by simpa using hm, by simpa using h1, fun j hj hlt => ?_⟩
        cases j with
        | zero => exact hp
        | succ j => exact h2 j (by simpa using hj) (by omega)
      · refine .inr fun j hj => ?_
        cases j with
        | zero => exact hp
        | succ j => exact h j (by simpa using hj)
theorem TabW.grown {w w' : World} {pb tb pl base : Nat} {ps : List Pl} {row : Option Nat} (h : TabW w pb tb pl ps) (hg : w.grownBy w' row) (hr : ∀ g, row = some g → base ≤ g) (h1 : pb < base) (h2 : tb < base) (h3 : pl < base) : TabW w' pb tb pl ps := by
  have hne : ∀ g, g < base → some g ≠ row := fun g hlt e => by have := hr g e.symm; omega
  exact ⟨(hg.block _ (lt_of_heap h.ptr) (hne _ h1)).trans h.ptr, (hg.block _ (lt_of_heap h.var) (hne _ h2)).trans h.var, (hg.block _ (lt_of_heap h.pls) (hne _ h3)).trans h.pls, h.len⟩
end inoI

/-- The table, and the handles told, behind i comings. -/
structure StaW (w : World) (i : Nat) (v : Value) (W : World) : Prop where
  tab : inoI.TabW W (w.heap.size + 1) (w.heap.size + 2) w.heap.size (inoI.filled (fun j => j) i 10)
  all : Hands W (w.heap.size + 3) v i
  ext : Ext w W

/-- The table, and the handle whose thing was taken away (block G), behind i further comings. -/
structure GoneW (w : World) (G a i : Nat) (W : World) : Prop where
  tab : ∃ ps, inoI.Past a i ps ∧ inoI.TabW W (w.heap.size + 1) (w.heap.size + 2) w.heap.size ps
  gone : W.heap[G]? = some (.cells #[.int .i64 (a + 1), .int .i64 1] 29 (0, 0))
  ext : Ext w W
  far : w.heap.size + 3 ≤ G

set_option maxRecDepth 100000 in
set_option maxHeartbeats 4000000 in
theorem inodeStale_walk (w : World) (many : Int) (w0 : (Lit.int .i64 many).wf = true) (which : Int) (w1 : (Lit.int .i64 which).wf = true) (ba : Option Addr) (len cap : Nat) (B : Nat → Bool) (w2 : IsBits w ba len cap B) :
    Calls Try.prog 4 #[.int .i64 many, .int .i64 which, .slice ba len cap] w fun r w' => r = .returned (.bool true) ∧ Ext w w' := by
  obtain ⟨n, hn, ha⟩ := around_nat many 8 (by omega) w0
  have HA := Lib.hid ha
  obtain ⟨a, hak, hb⟩ := around_nat which (1 + n) (by omega) w1
  have HB := Lib.hid hb
  have W2 := Lib.hid w2
  clear ha hb w0 w1 w2
  go_enter Try.func4, Try.ntmps4
  go_wp2_with fail
  refine (HA.out _).mono ?_
  rintro r wb ⟨rfl, rfl⟩
  go_wp2_with fail
  refine (inoI.new_yes 10 _ (by omega) (by omega)).mono ?_
  rintro r wa ⟨rfl, hma, hxa⟩
  have MA := Lib.hid (show StaW w 0 (.slice none 0 0) wa from ⟨by rw [inoI.filled_zero]; exact hma, World.ownsRow_nil _ _ _ _, hxa⟩)
  clear hma hxa
  go_wp2_with fail
  go_loopw [10, 11] (fun v10 v11 wr => ∃ i : Nat, i ≤ 1 + n ∧ v11 = .int .i64 i ∧ StaW w i v10 wr) (fun _ v11 _ => 1 + n - (intOf v11).toNat)
  case atStart => exact ⟨0, by omega, rfl, MA.out⟩
  case round =>
    obtain ⟨i, hi, rfl, hM⟩ := hrel
    have HM := Lib.hid hM
    clear hM MA
    by_cases hlt : i < 1 + n
    · have hd : decide ((i : Int) < 1 + (n : Int)) = true := by simp; omega
      go_wp2_with fail
      refine (inoI.add_next _ _ _ _ i 10 (by omega) _ i rfl HM.out.tab).mono ?_
      rintro r w3 ⟨rfl, hm3, hu3⟩
      have hsz3 := lt_of_heap hm3.var
      have HX3 := Lib.hid (hu3.ext HM.out.ext (by simp))
      have HT3 := Lib.hid hm3
      have HH3 := Lib.hid ((HM.out.all.upd hu3 (by simp)).ext ((Ext.refl w3).alloc (.cells #[.int .i64 (i + 1), .int .i64 1] 29)))
      obtain ⟨v', w5, hrun, hall, hg5⟩ := HH3.out.append (by omega) (by simp; omega) 38
      simp only [World.size_alloc] at hrun
      have HRUN := Lib.hid hrun
      clear hm3 hu3 hrun
      go_wp2_with (at_builtin; refine wpList_append_run rfl (.tmp 46) (.tmp 48) _ rfl _ _ _ rfl rfl HRUN.out ?_)
      go_roundw
      case rel =>
        have hx : Ext w3 ((w3.alloc (.cells #[.int .i64 (i + 1), .int .i64 1] 29)).alloc (.cells #[.int .i64 (i + 1), .int .i64 1] 29)) := ((Ext.refl w3).alloc _).alloc _
        exact ⟨i + 1, by omega, by go_num, (HT3.out.ext hx).grown hg5 HH3.out.own (by omega) (by omega) (by omega), hall, Below.grown (HX3.out.trans hx) hg5 (HX3.out.trans hx).size (fun g hg => by have := HH3.out.own g hg; omega)⟩
      case measure => simp [intOf]; omega
    · have hd : decide ((i : Int) < 1 + (n : Int)) = false := by simp; omega
      obtain rfl : i = 1 + n := by omega
      go_wp2_with fail
      refine (HB.out _).mono ?_
      rintro r w3 ⟨rfl, rfl⟩
      obtain ⟨g, cp, hv, hg1, hg2, hc1, hc2, q0, q1⟩ := HM.out.all.cell hak
      subst hv
      have ha0 : (0 : Int) ≤ (a : Int) := by omega
      have ha1 : (a : Int) < ((1 + n : Nat) : Int) := by omega
      go_wp2_with fail
      have HL := Lib.hid (show a < (inoI.filled (fun j => j) (1 + n) 10).length by rw [inoI.filled_len]; omega)
      have HAt := Lib.hid (show (inoI.filled (fun j => j) (1 + n) 10)[a]'HL.out = ⟨true, 1, a⟩ by rw [inoI.filled_at, if_pos hak])
      refine (inoI.remove_ok _ _ _ _ _ a HL.out (HM.out.tab.ext ((Ext.refl _).alloc _)) (by rw [HAt.out]) 1 (by rw [HAt.out])).mono ?_
      rintro r w4 ⟨rfl, hm4, hu4⟩
      obtain ⟨G, hG⟩ : ∃ G : Nat, G = wr.heap.size := ⟨_, rfl⟩
      have M4 := Lib.hid (show GoneW w G a 0 w4 from ⟨⟨_, inoI.Past.first _ a (1 + n), hm4⟩, by rw [hG]; exact hu4.heap (heap_alloc_new wr _) (by simp; have := lt_of_heap HM.out.tab.pls; omega), hu4.ext (HM.out.ext.alloc _) (by simp), by have := lt_of_heap HM.out.tab.var; omega⟩)
      rw [← hG]
      clear hm4 hu4 q0 q1 hg1 hg2 hc1 hc2 HL HAt HM hG
      go_wp2_with fail
      go_loopw [15] (fun v15 wr => ∃ i : Nat, i ≤ 12 ∧ i ≤ len ∧ v15 = .int .i64 i ∧ GoneW w G a i wr) (fun v15 _ => 12 - (intOf v15).toNat)
      case atStart => exact ⟨0, by omega, by omega, rfl, M4.out⟩
      case round =>
        obtain ⟨i, hi12, hil, rfl, hM⟩ := hrel
        have HM := Lib.hid hM
        clear hM M4
        by_cases hlt : i < len ∧ i < 12
        · have hd1 : decide ((i : Int) < (len : Int)) = true := by simp; omega
          have hd2 : decide ((i : Int) < 12) = true := by simp; omega
          obtain ⟨bg, bo, hba, hbc⟩ := (W2.out.ext HM.out.ext).at_ hlt.1
          have hcl := W2.out.1
          have hcm := W2.out.2.1
          subst hba
          have hi0 : (0 : Int) ≤ (i : Int) := by omega
          have hi1 : (i : Int) < (len : Int) := by omega
          have HBC := Lib.hid hbc
          clear hbc
          obtain ⟨ps, hP, hT⟩ := HM.out.tab
          have HP := Lib.hid hP
          have HT := Lib.hid hT
          clear hP hT
          rcases inoI.first_free ps with ⟨m, hm, hf, hall⟩ | hall
          · have hgm := HP.out.2 m hm
            have HF := Lib.hid hf
            have HALL := Lib.hid hall
            clear hf hall
            go_wp2_with fail
            refine (inoI.add_ok _ _ _ _ _ (100 + i) HT.out m hm HF.out HALL.out hgm.1 (by have := hgm.2.1; omega)).mono ?_
            rintro r w5 ⟨rfl, hm5, hu5⟩
            have HPm := Lib.hid (HP.out.add hm (100 + i) true)
            have HPr := Lib.hid (HP.out.add hm 0 false)
            have hml : m < ps.length := hm
            generalize ps[m].gen = gm at *
            have far := HM.out.far
            have hsz5 := lt_of_heap hm5.var
            have T5 := Lib.hid (hm5.ext ((Ext.refl w5).alloc (.cells #[.int .i64 (m + 1), .int .i64 (gm + 1)] 29)))
            have G5 := Lib.hid (((Ext.refl w5).alloc (.cells #[.int .i64 (m + 1), .int .i64 (gm + 1)] 29)).heap (hu5.heap HM.out.gone (by simp; omega)))
            have X5 := Lib.hid ((hu5.ext HM.out.ext (by simp)).alloc (.cells #[.int .i64 (m + 1), .int .i64 (gm + 1)] 29))
            have B5 := ((hu5.ext HM.out.ext (by simp)).alloc (.cells #[.int .i64 (m + 1), .int .i64 (gm + 1)] 29))
            have hbc := ((W2.out.ext X5.out).at_ hlt.1)
            obtain ⟨bg2, bo2, hba, hbc⟩ := hbc
            injection hba with hba
            injection hba with hb1 hb2
            subst hb1 hb2
            obtain ⟨p0, p1, _, _⟩ := blk2 G5.out
            have hg5 : G < w5.heap.size := lt_of_heap (hu5.heap HM.out.gone (by simp; omega))
            have hbl : bg < w5.heap.size := by
              have h1 := World.block_lt_of_cell? _ _ (((W2.out.ext (hu5.ext HM.out.ext (by simp))).at_ hlt.1).choose_spec.choose_spec.2)
              have h2 := ((W2.out.ext (hu5.ext HM.out.ext (by simp))).at_ hlt.1).choose_spec.choose_spec.1
              injection h2 with h2
              injection h2 with h2 h3
              simp only at h1
              omega
            have hq : ((m : Int) + 1 == (a : Int) + 1) = false ∨ (((m : Int) + 1 == (a : Int) + 1) = true ∧ (gm + 1 == 1) = false) := by
              by_cases e : m = a
              · right
                have := (hgm.2.2 e).1
                exact ⟨by simp; omega, by simp; omega⟩
              · left
                simp; omega
            clear hgm hm5 hu5 B5
            cases hB : B i
            all_goals rw [hB] at hbc
            all_goals rcases hq with hq | ⟨hq, hq2⟩
            all_goals go_wp2_with fail
            focus
              clear p0 p1
              have T6 := T5
              have I6 := HPm
              have G6 := G5
              have X6 := X5
              refine (inoI.get_no _ _ _ _ _ (a + 1) 1 T6.out I6.out.stale).mono ?_
              rintro r w7 ⟨rfl, hx7⟩
              have T7 := Lib.hid (T6.out.ext hx7)
              have G7 := Lib.hid (hx7.heap G6.out)
              have X7 := Lib.hid (X6.out.trans hx7)
              clear hx7
              obtain ⟨p0, p1, _, _⟩ := blk2 G7.out
              have hg7 := lt_of_heap G7.out
              go_wp2_with fail
              refine (inoI.set_no _ _ _ _ _ (a + 1) 1 5 T7.out I6.out.stale).mono ?_
              rintro r w8 ⟨rfl, hx8⟩
              have T8 := Lib.hid (T7.out.ext hx8)
              have G8 := Lib.hid (hx8.heap G7.out)
              have X8 := Lib.hid (X7.out.trans hx8)
              clear p0 p1 hg7 hx8
              obtain ⟨p0, p1, _, _⟩ := blk2 G8.out
              have hg8 := lt_of_heap G8.out
              go_wp2_with fail
              refine (inoI.remove_no _ _ _ _ _ (a + 1) 1 T8.out I6.out.stale).mono ?_
              rintro r w9 ⟨rfl, hx9⟩
              have M9 := Lib.hid (show GoneW w G a (i + 1) w9 from ⟨⟨_, I6.out, T8.out.ext hx9⟩, hx9.heap G8.out, X8.out.trans hx9, HM.out.far⟩)
              clear p0 p1 hg8 hx9
              go_wp2_with fail
              go_roundw
              case rel => exact ⟨i + 1, by omega, by omega, by go_num, M9.out⟩
              case measure => simp [intOf]; omega
            focus
              clear p0 p1
              have T6 := T5
              have I6 := HPm
              have G6 := G5
              have X6 := X5
              refine (inoI.get_no _ _ _ _ _ (a + 1) 1 T6.out I6.out.stale).mono ?_
              rintro r w7 ⟨rfl, hx7⟩
              have T7 := Lib.hid (T6.out.ext hx7)
              have G7 := Lib.hid (hx7.heap G6.out)
              have X7 := Lib.hid (X6.out.trans hx7)
              clear hx7
              obtain ⟨p0, p1, _, _⟩ := blk2 G7.out
              have hg7 := lt_of_heap G7.out
              go_wp2_with fail
              refine (inoI.set_no _ _ _ _ _ (a + 1) 1 5 T7.out I6.out.stale).mono ?_
              rintro r w8 ⟨rfl, hx8⟩
              have T8 := Lib.hid (T7.out.ext hx8)
              have G8 := Lib.hid (hx8.heap G7.out)
              have X8 := Lib.hid (X7.out.trans hx8)
              clear p0 p1 hg7 hx8
              obtain ⟨p0, p1, _, _⟩ := blk2 G8.out
              have hg8 := lt_of_heap G8.out
              go_wp2_with fail
              refine (inoI.remove_no _ _ _ _ _ (a + 1) 1 T8.out I6.out.stale).mono ?_
              rintro r w9 ⟨rfl, hx9⟩
              have M9 := Lib.hid (show GoneW w G a (i + 1) w9 from ⟨⟨_, I6.out, T8.out.ext hx9⟩, hx9.heap G8.out, X8.out.trans hx9, HM.out.far⟩)
              clear p0 p1 hg8 hx9
              go_wp2_with fail
              go_roundw
              case rel => exact ⟨i + 1, by omega, by omega, by go_num, M9.out⟩
              case measure => simp [intOf]; omega
            all_goals
              have hat : ((ps.set m ⟨true, gm + 1, 100 + i⟩)[m]'(by rw [List.length_set]; exact hml)) = (⟨true, gm + 1, 100 + i⟩ : inoI.Pl) := by simp
              refine (inoI.remove_ok _ _ _ _ _ m (by rw [List.length_set]; exact hml) T5.out (by rw [hat]) (gm + 1) (by rw [hat])).mono ?_
              rintro r w6 ⟨rfl, hm6, hu6⟩
              rw [List.set_set] at hm6
              have T6 := Lib.hid hm6
              have I6 := HPr
              have G6 := Lib.hid (hu6.heap G5.out (by simp; omega))
              have X6 := Lib.hid (hu6.ext X5.out (by simp))
              clear hm6 hu6 p0 p1 hat hbc
              obtain ⟨p0, p1, _, _⟩ := blk2 G6.out
              have hg6 := lt_of_heap G6.out
              go_wp2_with fail
              clear p0 p1 hg6
              refine (inoI.get_no _ _ _ _ _ (a + 1) 1 T6.out I6.out.stale).mono ?_
              rintro r w7 ⟨rfl, hx7⟩
              have T7 := Lib.hid (T6.out.ext hx7)
              have G7 := Lib.hid (hx7.heap G6.out)
              have X7 := Lib.hid (X6.out.trans hx7)
              clear hx7
              obtain ⟨p0, p1, _, _⟩ := blk2 G7.out
              have hg7 := lt_of_heap G7.out
              go_wp2_with fail
              refine (inoI.set_no _ _ _ _ _ (a + 1) 1 5 T7.out I6.out.stale).mono ?_
              rintro r w8 ⟨rfl, hx8⟩
              have T8 := Lib.hid (T7.out.ext hx8)
              have G8 := Lib.hid (hx8.heap G7.out)
              have X8 := Lib.hid (X7.out.trans hx8)
              clear p0 p1 hg7 hx8
              obtain ⟨p0, p1, _, _⟩ := blk2 G8.out
              have hg8 := lt_of_heap G8.out
              go_wp2_with fail
              refine (inoI.remove_no _ _ _ _ _ (a + 1) 1 T8.out I6.out.stale).mono ?_
              rintro r w9 ⟨rfl, hx9⟩
              have M9 := Lib.hid (show GoneW w G a (i + 1) w9 from ⟨⟨_, I6.out, T8.out.ext hx9⟩, hx9.heap G8.out, X8.out.trans hx9, HM.out.far⟩)
              clear p0 p1 hg8 hx9
              go_wp2_with fail
              go_roundw
              case rel => exact ⟨i + 1, by omega, by omega, by go_num, M9.out⟩
              case measure => simp [intOf]; omega
          · have HALL := Lib.hid hall
            clear hall
            go_wp2_with fail
            refine (inoI.add_full _ _ _ _ _ (100 + i) HT.out HALL.out).mono ?_
            rintro r w5 ⟨rfl, hx5⟩
            have T6 := Lib.hid ((HT.out.ext hx5).ext ((Ext.refl w5).alloc (.cells #[.int .i64 0, .int .i64 0] 29)))
            have I6 := Lib.hid HP.out.next
            have G6 := Lib.hid ((hx5.trans ((Ext.refl w5).alloc (.cells #[.int .i64 0, .int .i64 0] 29))).heap HM.out.gone)
            have X6 := Lib.hid ((HM.out.ext.trans hx5).alloc (.cells #[.int .i64 0, .int .i64 0] 29))
            have hgz : G < w5.heap.size := lt_of_heap (hx5.heap HM.out.gone)
            clear hx5
            obtain ⟨p0, p1, _, _⟩ := blk2 G6.out
            go_wp2_with fail
            clear p0 p1
            refine (inoI.get_no _ _ _ _ _ (a + 1) 1 T6.out I6.out.stale).mono ?_
            rintro r w7 ⟨rfl, hx7⟩
            have T7 := Lib.hid (T6.out.ext hx7)
            have G7 := Lib.hid (hx7.heap G6.out)
            have X7 := Lib.hid (X6.out.trans hx7)
            clear hx7
            obtain ⟨p0, p1, _, _⟩ := blk2 G7.out
            have hg7 := lt_of_heap G7.out
            go_wp2_with fail
            refine (inoI.set_no _ _ _ _ _ (a + 1) 1 5 T7.out I6.out.stale).mono ?_
            rintro r w8 ⟨rfl, hx8⟩
            have T8 := Lib.hid (T7.out.ext hx8)
            have G8 := Lib.hid (hx8.heap G7.out)
            have X8 := Lib.hid (X7.out.trans hx8)
            clear p0 p1 hg7 hx8
            obtain ⟨p0, p1, _, _⟩ := blk2 G8.out
            have hg8 := lt_of_heap G8.out
            go_wp2_with fail
            refine (inoI.remove_no _ _ _ _ _ (a + 1) 1 T8.out I6.out.stale).mono ?_
            rintro r w9 ⟨rfl, hx9⟩
            have M9 := Lib.hid (show GoneW w G a (i + 1) w9 from ⟨⟨_, I6.out, T8.out.ext hx9⟩, hx9.heap G8.out, X8.out.trans hx9, HM.out.far⟩)
            clear p0 p1 hg8 hx9
            go_wp2_with fail
            go_roundw
            case rel => exact ⟨i + 1, by omega, by omega, by go_num, M9.out⟩
            case measure => simp [intOf]; omega
        · have hcase : (decide (i < len) = false) ∨ (decide (i < len) = true ∧ decide ((i : Int) < 12) = false) := by
            by_cases h1 : i < len
            · right; exact ⟨by simp; omega, by simp; omega⟩
            · left; simp; omega
          clear hlt
          rcases hcase with hd1 | ⟨hd1, hd2⟩
          all_goals
            go_wp2_with fail
            refine (lives_any _).mono ?_
            rintro r w5 ⟨rfl, hx5⟩
            go_wp2_with fail
            go_ret
            exact ⟨rfl, HM.out.ext.trans hx5⟩
end Go.Proofs.Ytmdacpkkglhefaa
