/- Rows of the call's own; the document's Good; plain facts on all fragments. -/
import Derived.Test.YtpgbocdcjlcelaaDe2
import Derived.Deep.Matrix
namespace Go.Proofs.Ytpgbocdcjlcelaa
open Go.ChangeShapes Go.WideShapes Go.ChangeAt Go.RowKit
inductive Each (R : Value → List Int → Prop) : List Value → List (List Int) → Prop
  | nil : Each R [] []
  | cons {x : Value} {y : List Int} {xs : List Value} {ys : List (List Int)} : R x y → Each R xs ys → Each R (x :: xs) (y :: ys)
theorem Each.len {R : Value → List Int → Prop} {xs : List Value} {ys : List (List Int)} (h : Each R xs ys) : xs.length = ys.length := by
  induction h with
  | nil => rfl
  | cons _ _ ih => simp [ih]
theorem Each.mono {R S : Value → List Int → Prop} {xs : List Value} {ys : List (List Int)} (h : Each R xs ys) (hs : ∀ x y, R x y → S x y) : Each S xs ys := by
  induction h with
  | nil => exact .nil
  | cons h1 _ ih => exact .cons (hs _ _ h1) ih
theorem Each.snoc {R : Value → List Int → Prop} {xs : List Value} {ys : List (List Int)} (h : Each R xs ys) {x : Value} {y : List Int} (hx : R x y) : Each R (xs ++ [x]) (ys ++ [y]) := by
  induction h with
  | nil => exact .cons hx .nil
  | cons h1 _ ih => exact .cons h1 ih
theorem Each.get {R : Value → List Int → Prop} {xs : List Value} {ys : List (List Int)} (h : Each R xs ys) {i : Nat} (hi : i < xs.length) : R xs[i] (ys.getD i []) := by
  induction h generalizing i with
  | nil => simp at hi
  | cons h1 _ ih =>
    cases i with
    | zero => simpa using h1
    | succ i => simpa using ih (by simpa using hi)
def OwnRow (w : World) (base : Nat) (x : Value) (y : List Int) : Prop := Owns w base 5 x (bv y) ∧ ∀ z ∈ y, (Lit.int .u8 z).wf = true
/-- The slice value v, of the call's own, holds slices of the call's own that hold yss. -/
def OwnsRows (w : World) (base : Nat) (v : Value) (yss : List (List Int)) : Prop := ∃ xs, Owns w base 22 v xs ∧ Each (OwnRow w base) xs yss
theorem OwnsRows.nil (w : World) (base : Nat) : OwnsRows w base (.slice none 0 0) [] := ⟨[], Owns.nil _ _ _, .nil⟩
theorem OwnsRows.ext {w w' : World} {base : Nat} {v : Value} {yss : List (List Int)} (h : OwnsRows w base v yss) (hx : Ext w w') : OwnsRows w' base v yss := by
  obtain ⟨xs, h1, h2⟩ := h
  exact ⟨xs, h1.ext hx, h2.mono fun x y h => ⟨h.1.ext hx, h.2⟩⟩
theorem infoRow : (Try.prog.info? 22).map (fun i => (i.zero, i.size, i.bytes)) = some (some (.slice none 0 0), 1, 24) := by kernel_rfl
theorem Owns.one {w : World} {base : Nat} {e : TypeId} {v : Value} {xs : List Value} (h : Owns w base e v xs) : v.oneCell' = true := by
  rcases h.form with ⟨rfl, _⟩ | ⟨g, cap, cur, rfl, _⟩ <;> rfl
/-- Blocks of two types are two. -/
theorem Owns.apart {w : World} {b1 b2 : Nat} {e1 e2 : TypeId} {v1 v2 : Value} {x1 x2 : List Value} (h1 : Owns w b1 e1 v1 x1) (h2 : Owns w b2 e2 v2 x2) (he : e1 ≠ e2) {g : Nat} (hg : v1.ownBlock = some g) : v2.ownBlock ≠ some g := by
  intro hg2
  rcases h1.form with ⟨rfl, _⟩ | ⟨g1, c1, k1, rfl, _, _, _, hh1, _⟩
  · simp [Value.ownBlock] at hg
  · rcases h2.form with ⟨rfl, _⟩ | ⟨g2, c2, k2, rfl, _, _, _, hh2, _⟩
    · simp [Value.ownBlock] at hg2
    · simp only [Value.ownBlock, Option.some.injEq] at hg hg2
      subst hg
      subst hg2
      rw [hh1] at hh2
      injection hh2 with hh2
      injection hh2 with _ h _
      exact he h
theorem OwnsRows.push {w : World} {base : Nat} {v x : Value} {yss : List (List Int)} {y : List Int} (h : OwnsRows w base v yss) (hx : OwnRow w base x y) (hb : base ≤ w.heap.size) (hl : yss.length ≤ 1000) :
    ∃ v' w', (Builtin.append_ #[23, 23] 23 #[v, .slice (some ⟨w.heap.size, 0, none⟩) 1 1]).run Try.prog (w.alloc (.cells #[x] 22)) = .ok v' w' ∧ OwnsRows w' base v' (yss ++ [y]) ∧ ∀ o, o.heap.size ≤ base → Ext o w → Ext o w' := by
  obtain ⟨xs, h1, h2⟩ := h
  have hlen := h2.len
  obtain ⟨v', w', p1, p2, p3, _⟩ := h1.append1 (P := Try.prog) (t := 23) (ty := 23) (.slice none 0 0) 24 Try.underlying23 infoRow rfl x hx.1.one (by unfold maxLen; omega) (by omega) hb
  have far : ∀ x y, OwnRow w base x y → OwnRow w' base x y := fun x1 y1 hxy => by
    refine ⟨?_, hxy.2⟩
    refine ⟨hxy.1.1, ?_⟩
    rcases hxy.1.2 with hn | ⟨g, cap, cur, hv, hb, hg, rest⟩
    · exact .inl hn
    · refine .inr ⟨g, cap, cur, hv, hb, ?_, rest⟩
      have hga := ((Ext.refl w).alloc (.cells #[x] 22)).heap hg
      refine grown_heap p3 hga (fun e => ?_)
      exact hxy.1.apart h1 (by decide) (g := g) (by rw [hv]; rfl) e.symm
  exact ⟨v', w', p1, ⟨xs ++ [x], p2, (h2.mono far).snoc (far _ _ hx)⟩, fun o ho hxo => grown_ext p3 (hxo.alloc _) (fun g hg => by have := (h1.lt hg).1; omega)⟩
theorem OwnsRows.rows {w : World} {base : Nat} {v : Value} {yss : List (List Int)} (h : OwnsRows w base v yss) : ∃ a cap, v = .slice a yss.length cap ∧ IsRows Plain w a yss.length cap yss ∧ Plain a cap := by
  obtain ⟨xs, h1, h2⟩ := h
  have hlen := h2.len
  rcases h1.form with ⟨rfl, h0⟩ | ⟨g, cap, cur, hv, hb, hn, hm, hg, hs, ht⟩
  · subst h0
    have hy : yss = [] := List.eq_nil_of_length_eq_zero (by simpa using hlen.symm)
    subst hy
    exact ⟨none, 0, rfl, ⟨rfl, by simp, by unfold maxLen; omega, .inl rfl⟩, .inl ⟨rfl, rfl⟩⟩
  · rw [hlen] at hv hn ht
    refine ⟨_, cap, hv, ⟨rfl, hn, hm, .inr ⟨g, 0, rfl, fun i hi => ?_⟩⟩, .inr ⟨g, 0, rfl⟩⟩
    have hi' : i < xs.length := by omega
    have hr := h2.get hi'
    obtain ⟨ai, ci, e1, e2, e3⟩ := hr.1.row2 hr.2
    refine ⟨ai, ci, ?_, e2, e3⟩
    have h3 : (cur.toList.take yss.length)[i]? = cur[i]? := by rw [List.getElem?_take, if_pos hi]; simp
    rw [Nat.zero_add, cell_of hg i, ← h3, ht, List.getElem?_eq_getElem hi', e1]
/-- Rows that came in. -/
theorem IsRows.of_trod {H : Type} {enc : TypeId × Value → H} {P : Program} {W : World} {t e q : TypeId} {a : Option Addr} {len cap : Nat} {d : DataW H} {p : List MemPlace}
    (ht : P.underlying t = some (.slice e)) (he : P.underlying e = some (.slice q)) (hq : P.underlying q = some (.int .u8)) (ce : P.cellsOf e = 1) (cq : P.cellsOf q = 1)
    (h : DataW.Trod enc P W 0 (fun _ => true) true t (.slice a len cap) d p) : ∃ yss, IsRows (fun a c => a = none → c = 0) W a len cap yss ∧ (a = none → cap = 0) := by
  obtain ⟨fuel, hf⟩ := h
  rcases Go.Deep.open_int_rows ht he hq ce cq hf with ⟨hcs, _⟩ | ⟨x, l, c, A, L, C, Z, hcs, _, hl, hm, _, hcell⟩
  · simp [Value.cells] at hcs
    obtain ⟨rfl, rfl, rfl⟩ := hcs
    exact ⟨[], ⟨rfl, by omega, by unfold maxLen; omega, .inl rfl⟩, fun _ => rfl⟩
  · simp [Value.cells] at hcs
    obtain ⟨rfl, rfl, rfl⟩ := hcs
    refine ⟨(List.range len).map fun r => (Z r).take (L r), ⟨by simp, hl, hm, ?_⟩, fun e => by cases e⟩
    rcases Nat.eq_zero_or_pos len with h0 | h0
    · exact .inl h0
    · right
      obtain ⟨g, o, spot⟩ := x
      have hspot : spot = none := by simpa [Addr.add] using World.cell?_spot (hcell 0 (by omega)).1
      subst hspot
      refine ⟨g, o, rfl, fun i hi => ?_⟩
      obtain ⟨q1, q2, q3, q4, q5, q6, q7⟩ := hcell i (by omega)
      have e1 : ((List.range len).map fun r => (Z r).take (L r)).getD i [] = (Z i).take (L i) := by simp [List.getD, hi]
      have e2 : ((Z i).take (L i)).length = L i := by rw [List.length_take]; omega
      rw [Go.WideShapes.add_plain] at q1
      rw [e1, e2]
      refine ⟨A i, C i, q1, ⟨e2, q2, q3, fun z hz => q5 z (List.mem_of_mem_take hz), ?_⟩, q6⟩
      rcases Nat.eq_zero_or_pos (L i) with h1 | h1
      · exact .inl h1
      · cases hA : A i with
        | none => have := q6 hA; omega
        | some a' =>
          have q8 := (q7 a' hA).2
          obtain ⟨g', o', spot'⟩ := a'
          have hspot' : spot' = none := by simpa [Addr.add] using World.cell?_spot (q8 0 (by omega))
          subst hspot'
          refine .inr ⟨g', o', rfl, fun c hc => ?_⟩
          rw [← Go.WideShapes.add_plain, q8 c (by omega)]
          simp [List.getD, hc]
def iv (zs : List Int) : List Value := zs.map (.int .i64)
theorem iv_len (zs : List Int) : (iv zs).length = zs.length := by simp [iv]
theorem Owns.rowI {w : World} {base : Nat} {e : TypeId} {v : Value} {zs : List Int} (h : Owns w base e v (iv zs)) (hw : ∀ z ∈ zs, (Lit.int .i64 z).wf = true) : ∃ a cap, v = .slice a zs.length cap ∧ IsRow .i64 w a zs.length cap zs := by
  rcases h.form with ⟨hv, h0⟩ | ⟨g, cap, cur, hv, hb, hn, hm, hg, hs, ht⟩
  · have hz : zs = [] := by simpa [iv] using h0
    subst hz
    exact ⟨none, 0, hv, rfl, by simp, by unfold maxLen; omega, by simp, .inl rfl⟩
  · rw [iv_len] at hv hn ht
    refine ⟨_, cap, hv, rfl, hn, hm, hw, .inr ⟨g, 0, rfl, fun i hi => ?_⟩⟩
    have h1 : (cur.toList.take zs.length)[i]? = cur[i]? := by rw [List.getElem?_take, if_pos hi]; simp
    rw [Nat.zero_add, cell_of hg i, ← h1, ht]
    simp [iv, List.getD, List.getElem?_eq_getElem hi]
theorem take_snoc {α : Type} (l : List α) (i : Nat) (d : α) (hi : i < l.length) : l.take (i + 1) = l.take i ++ [l.getD i d] := by
  rw [List.take_succ_eq_append_getElem hi]
  simp [List.getD, List.getElem?_eq_getElem hi]
def fewAll (m : Nat) (rss : List (List Int)) (i : Nat) : List (List Int) := (rss.take i).map (·.take m)
theorem fewAll_succ (m : Nat) (rss : List (List Int)) (i : Nat) (hi : i < rss.length) : fewAll m rss (i + 1) = fewAll m rss i ++ [(rss.getD i []).take m] := by
  unfold fewAll
  rw [take_snoc rss i [] hi]
  simp
theorem fewAll_len (m : Nat) (rss : List (List Int)) (i : Nat) (hi : i ≤ rss.length) : (fewAll m rss i).length = i := by unfold fewAll; simp; omega
def arAll (m : Int) (ss : List Int) (i : Nat) : List Int := (ss.take i).map (arnd · m)
theorem arAll_succ (m : Int) (ss : List Int) (i : Nat) (hi : i < ss.length) : arAll m ss (i + 1) = arAll m ss i ++ [arnd (ss.getD i 0) m] := by
  unfold arAll
  rw [take_snoc ss i 0 hi]
  simp
theorem arAll_len (m : Int) (ss : List Int) (i : Nat) (hi : i ≤ ss.length) : (arAll m ss i).length = i := by unfold arAll; simp; omega
theorem arnd_wf (n m : Int) (h0 : 0 < m) (hm : m ≤ 1000000) : (Lit.int .i64 (arnd n m)).wf = true := by
  have := arnd_bd n m h0
  simp [Lit.wf, IntKind.min, IntKind.max, IntKind.signed, IntKind.bits]
  omega
theorem IsRows.head {Q : Option Addr → Nat → Prop} {w : World} {a : Option Addr} {len cap : Nat} {yss : List (List Int)} (h : IsRows Q w a len cap yss) {j : Nat} (hj : j ≤ len) : IsRows Q w a j cap (yss.take j) := by
  obtain ⟨h1, h2, h3, h5⟩ := h
  refine ⟨by rw [List.length_take]; omega, by omega, h3, ?_⟩
  rcases h5 with h5 | ⟨g, o, e, hc⟩
  · left; omega
  · right
    refine ⟨g, o, e, fun i hi => ?_⟩
    have := hc i (by omega)
    have e : (yss.take j).getD i [] = yss.getD i [] := by simp [List.getD, hi]
    rw [e]
    exact this
/-- Records that are fit, and sizes that are fit. -/
def GoodRel (w w' : World) (v1 v2 : Value) : Prop := ∃ yss gs, OwnsRows w' w.heap.size v1 yss ∧ yss.length ≤ 5 ∧ (∀ y ∈ yss, y.length ≤ 40) ∧ Owns w' w.heap.size 3 v2 (iv gs) ∧ (∀ z ∈ gs, 1 ≤ z ∧ z ≤ 20) ∧ Ext w w'
def goodAll (ss : List Int) (i : Nat) : List Int := (ss.take i).map (fun z => 1 + arnd z 20)
theorem goodAll_succ (ss : List Int) (i : Nat) (hi : i < ss.length) : goodAll ss (i + 1) = goodAll ss i ++ [1 + arnd (ss.getD i 0) 20] := by
  unfold goodAll
  rw [take_snoc ss i 0 hi]
  simp
theorem goodAll_len (ss : List Int) (i : Nat) (hi : i ≤ ss.length) : (goodAll ss i).length = i := by unfold goodAll; simp; omega
set_option maxRecDepth 100000 in
set_option maxHeartbeats 4000000 in
theorem good_any (a : Option Addr) (n cap : Nat) (rss : List (List Int)) (sa : Option Addr) (sn sc : Nat) (ss : List Int) (w : World) (h : IsRows (fun a c => a = none → c = 0) w a n cap rss) (hs : IsRow .i64 w sa sn sc ss) :
    Calls Try.prog 8 #[.slice a n cap, .slice sa sn sc] w fun r w' => ∃ v1 v2, r = .returned (.tuple #[v1, v2]) ∧ GoodRel w w' v1 v2 := by
  have hcm := h.2.2.1
  have hlc := h.2.1
  have hscm := hs.2.2.1
  have hslc := hs.2.1
  unfold maxLen at hcm hscm
  have HNE := Lib.hid h.1
  have HSE := Lib.hid hs.1
  have HR := Lib.hid h
  have HS := Lib.hid hs
  obtain ⟨T, hT⟩ : ∃ T, T = min n 5 := ⟨_, rfl⟩
  have hT1 : T ≤ n := by omega
  have hT2 : T ≤ 5 := by omega
  have HT := Lib.hid hT
  obtain ⟨j, hj⟩ : ∃ j, j = min sn 5 := ⟨_, rfl⟩
  have hj1 : j ≤ sn := by omega
  have hj2 : j ≤ 5 := by omega
  have HJ := Lib.hid hj
  clear h hs hT hj
  go_enter Try.func8, Try.ntmps8
  go_wp2_with fail
  go_loopw [6, 7] (fun v5 v6 wr => ∃ i : Nat, i ≤ T ∧ v6 = .int .i64 i ∧ OwnsRows wr w.heap.size v5 (fewAll 40 rss i) ∧ Ext w wr) (fun _ v6 _ => T - (intOf v6).toNat)
  case atStart => exact ⟨0, by omega, rfl, OwnsRows.nil _ _, Ext.refl w⟩
  case round =>
    obtain ⟨i, hi, rfl, hO, hX⟩ := hrel
    have HO := Lib.hid hO
    have HX := Lib.hid hX
    clear hO hX
    by_cases hlt : i < T
    · have hd : decide (i < n) = true := by simp; omega
      have hd2 : decide ((i : Int) < 5) = true := by simp; omega
      have hi0 : (0 : Int) ≤ (i : Int) := by omega
      have hi1 : (i : Int) < (n : Int) := by omega
      obtain ⟨g, o, ai, ci, rfl, q1, q2, q3⟩ := (HR.out.ext HX.out).at_ (show i < n by omega)
      have hgr := World.block_lt_of_cell? wr _ q1
      have HF := Lib.hid (few_any ai _ ci (rss.getD i []) 40 (by omega) wr q2 q3)
      have HW := Lib.hid (show ∀ z ∈ (rss.getD i []).take 40, (Lit.int .u8 z).wf = true from fun z hz => q2.2.2.2.1 z (List.mem_of_mem_take hz))
      have HFS := Lib.hid (fewAll_succ 40 rss i (by rw [HNE.out]; omega))
      clear q2 q3
      generalize (rss.getD i []).length = rl at *
      generalize (rss.getD i []).take 40 = y at *
      go_wp2_with fail
      refine HF.out.mono ?_
      rintro r w2 ⟨v2, rfl, hO2, hX2⟩
      obtain ⟨v', w', p1, p2, p3⟩ := (HO.out.ext hX2).push ⟨hO2.low HX.out.size, HW.out⟩ (Nat.le_trans HX.out.size hX2.size) (by rw [fewAll_len _ _ _ (by rw [HNE.out]; omega)]; omega)
      have P1 := Lib.hid p1
      have P2 := Lib.hid p2
      have P3 := Lib.hid (p3 w (Nat.le_refl _) (HX.out.trans hX2))
      obtain ⟨a2, c2, rfl, _⟩ := hO2.row2 HW.out
      clear p1 p2 p3 hO2 hX2
      rw [← HFS.out] at P2
      go_wp2_with (at_builtin; refine wpList_append_run rfl (.tmp 20) (.tmp 26) _ rfl _ _ _ ?_ ?_ P1.out ?_)
      · rfl
      · rfl
      · go_roundw
        case rel => exact ⟨i + 1, by omega, by go_num, P2.out, P3.out⟩
        case measure => simp [intOf]; omega
    · obtain rfl : i = T := by omega
      have hall : (decide (i < n) = true ∧ decide ((i : Int) < 5) = false) ∨ decide (i < n) = false := by
        have := HT.out
        by_cases h5 : n ≤ i
        · right; simp; omega
        · left; exact ⟨by simp; omega, by simp; omega⟩
      have HYL := Lib.hid (show (fewAll 40 rss i).length ≤ 5 by rw [fewAll_len _ _ _ (by rw [HNE.out]; exact hT1)]; omega)
      have HY40 := Lib.hid (show ∀ y ∈ fewAll 40 rss i, y.length ≤ 40 from fun y hy => by
        unfold fewAll at hy
        obtain ⟨z, _, rfl⟩ := List.mem_map.1 hy
        simp; omega)
      generalize fewAll 40 rss i = yss at *
      obtain ⟨wc, rfl⟩ : ∃ wc : World, wc = wr := ⟨_, rfl⟩
      rcases hall with ⟨hd, hd2⟩ | hd
      all_goals
        go_wp2_with fail
        go_loopw [8, 9] (fun v8 v9 wq => ∃ k : Nat, k ≤ j ∧ v9 = .int .i64 k ∧ Owns wq wc.heap.size 3 v8 (iv (goodAll ss k)) ∧ Ext wc wq) (fun _ v9 _ => j - (intOf v9).toNat)
        case atStart => exact ⟨0, by omega, rfl, Owns.nil _ _ _, Ext.refl _⟩
        case round =>
          obtain ⟨k, hk, rfl, hO8, hX8⟩ := hrel
          have HO8 := Lib.hid hO8
          have HX8 := Lib.hid hX8
          clear hO8 hX8
          by_cases hkj : k < j
          · have hdk : decide (k < sn) = true := by simp; omega
            have hdk2 : decide ((k : Int) < 5) = true := by simp; omega
            have hk0 : (0 : Int) ≤ (k : Int) := by omega
            have hk1 : (k : Int) < (sn : Int) := by omega
            obtain ⟨g, o, rfl, qs⟩ := (HS.out.ext (HX.out.trans HX8.out)).at_ (show k < sn by omega)
            have hgr := World.block_lt_of_cell? _ _ qs
            have HAS := Lib.hid (goodAll_succ ss k (by rw [HSE.out]; omega))
            have hzw := wf_i64 (HS.out.2.2.2.1 (ss.getD k 0) (by simp [List.getD, HSE.out, show k < sn by omega]))
            generalize ss.getD k 0 = z at *
            have hab := arnd_bd z 20 (by omega)
            obtain ⟨v', w', p1, p2, _, p4⟩ := more HO8.out (1 + arnd z 20) (by rw [iv_len, goodAll_len _ _ (by rw [HSE.out]; omega)]; omega) HX8.out.size
            have P1 := Lib.hid p1
            have P2 := Lib.hid (show Owns w' wc.heap.size 3 v' (iv (goodAll ss (k + 1))) by rw [HAS.out]; simpa [iv] using p2)
            have P4 := Lib.hid (p4 _ (Nat.le_refl _) HX8.out)
            clear p1 p2 p4
            have HAr := Lib.hid (around_any z 20 wr (by omega) hzw.1 hzw.2)
            generalize arnd z 20 = zr at *
            go_wp2_with fail
            refine HAr.out.mono ?_
            rintro r wb ⟨rfl, rfl⟩
            go_wp2_with (at_builtin; refine wpList_append_run rfl (.tmp 38) (.tmp 45) _ rfl _ _ _ ?_ ?_ P1.out ?_)
            · rfl
            · rfl
            · go_roundw
              case rel => exact ⟨k + 1, by omega, by go_num, P2.out, P4.out⟩
              case measure => simp [intOf]; omega
          · have hall2 : (decide (k < sn) = true ∧ decide ((k : Int) < 5) = false) ∨ decide (k < sn) = false := by
              have := HJ.out
              by_cases h5 : sn ≤ k
              · right; simp; omega
              · left; exact ⟨by simp; omega, by simp; omega⟩
            have HG := Lib.hid (show ∀ z ∈ goodAll ss k, 1 ≤ z ∧ z ≤ 20 from fun z hz => by
              unfold goodAll at hz
              obtain ⟨y, _, rfl⟩ := List.mem_map.1 hz
              have := arnd_bd y 20 (by omega)
              omega)
            rcases hall2 with ⟨hd3, hd4⟩ | hd3
            all_goals
              go_wp2_with fail
              refine bodyPost_ret (v := .tuple #[_, _]) (by simp [results, Try.results8, go_sem]) rfl ⟨_, _, rfl, yss, _, HO.out.ext HX8.out, HYL.out, HY40.out, HO8.out.low HX.out.size, HG.out, HX.out.trans HX8.out⟩
def catAll (ss : List Int) (yss : List (List Int)) (k : Nat) : List Int := (List.range k).flatMap fun i => (ans (yss.getD i []) (sizeAt ss i)).1
theorem catAll_succ (ss : List Int) (yss : List (List Int)) (k : Nat) : catAll ss yss (k + 1) = catAll ss yss k ++ (ans (yss.getD k []) (sizeAt ss k)).1 := by simp [catAll, List.range_succ]
theorem catAll_len (ss : List Int) (yss : List (List Int)) (k : Nat) : (catAll ss yss k).length ≤ k * 262400 := by
  induction k with
  | zero => simp [catAll]
  | succ k ih =>
    rw [catAll_succ, List.length_append]
    have := ans_len (yss.getD k []) (sizeAt ss k)
    omega
theorem ans_good {y : List Int} (hy : y.length ≤ 40) {s : Int} (h1 : 1 ≤ s) : (ans y s).2 = 0 := by
  unfold ans
  have hc : cnt y.length s.toNat ≤ 64 := by
    unfold cnt
    split
    · omega
    · refine Nat.div_le_of_le_mul ?_
      have : 1 * 64 ≤ s.toNat * 64 := Nat.mul_le_mul_right _ (by omega)
      omega
  rw [if_neg (by omega), if_neg (by omega), if_neg (by omega)]
theorem sizeAt_good {ss : List Int} (h : ∀ z ∈ ss, 1 ≤ z ∧ z ≤ 20) (i : Nat) : 1 ≤ sizeAt ss i := by
  unfold sizeAt
  split
  · omega
  · next h0 =>
    have hl := Nat.mod_lt i (show 0 < ss.length by omega)
    simp only [List.getD_eq_getElem?_getD, List.getElem?_eq_getElem hl, Option.getD_some]
    exact (h _ (List.getElem_mem hl)).1
theorem goAll_good {ss : List Int} {yss : List (List Int)} (hs : ∀ z ∈ ss, 1 ≤ z ∧ z ≤ 20) (hy : ∀ y ∈ yss, y.length ≤ 40) : ∀ (m i : Nat), i + m = yss.length → goAll ss (yss.drop i) i (catAll ss yss i) = (catAll ss yss yss.length, 0) := by
  intro m
  induction m with
  | zero =>
    intro i hi
    rw [goAll_end (by omega), show i = yss.length by omega]
  | succ m ih =>
    intro i hi
    have hlt : i < yss.length := by omega
    have h0 : (ans (yss.getD i []) (sizeAt ss i)).2 = 0 := ans_good (by
      simp only [List.getD_eq_getElem?_getD, List.getElem?_eq_getElem hlt, Option.getD_some]
      exact hy _ (List.getElem_mem hlt)) (sizeAt_good hs i)
    rw [goAll_more hlt _ h0, ← catAll_succ]
    exact ih (i + 1) (by omega)
theorem str_app (a b : List Int) : strOfNums a ++ strOfNums b = strOfNums (a ++ b) := by
  unfold strOfNums
  apply ByteArray.ext
  simp
theorem str_size (a : List Int) : (strOfNums a).size = a.length := by simp [strOfNums, ByteArray.size]
end Go.Proofs.Ytpgbocdcjlcelaa
