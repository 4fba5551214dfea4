/- The document's Read gives the plain answer. -/
import Derived.Test.YtcnbgcoklbmdaaaDoorRc1
import Derived.Test.YtcnbgcoklbmdaaaDoorRc2
namespace Go.Proofs.YtcnbgcoklbmdaaaDoor
open Go.ChangeShapes Go.WideShapes Go.ChangeAt Go.RowKit

def uv (l : List Int) : List Value := l.map (.int .u32)
theorem infoU32 : (Tryd.prog.info? 23).map (fun i => (i.zero, i.size, i.bytes)) = some (some (.int .u32 0), 1, 4) := by kernel_rfl
theorem moreU {w : World} {base : Nat} {v : Value} {l : List Int} (h : Owns w base 23 v (uv l)) (x : Int) (hl : l.length ≤ 100) (hb : base ≤ w.heap.size) :
    ∃ v' w', (Builtin.append_ #[55, 55] 55 #[v, .slice (some ⟨w.heap.size, 0, none⟩) 1 1]).run Tryd.prog (w.alloc (.cells #[.int .u32 x] 23)) = .ok v' w' ∧ Owns w' base 23 v' (uv (l ++ [x])) ∧
      (w.alloc (.cells #[.int .u32 x] 23)).grownBy w' v.ownBlock := by
  have e : (uv l).length = l.length := by simp [uv]
  obtain ⟨v', w', h1, h2, h3, _⟩ := h.append1 (P := Tryd.prog) (t := 55) (ty := 55) (.int .u32 0) 4 Tryd.underlying55 infoU32 rfl (.int .u32 x) rfl (by unfold maxLen; omega) (by omega) hb
  exact ⟨v', w', h1, by simpa [uv] using h2, h3⟩
def rdY (v0 : Int) (s3 : Int × List Int × Nat × Option (Int × Int)) : Bool × Int × Int × Nat × Option (Int × Int) :=
  let s4 := stepN [] s3.2.1 s3.2.2.1 s3.2.2.2
  (true, v0, s4.1, s4.2.2.1, s4.2.2.2)
def rdZ (v0 : Int) (s4 : Int × List Int × Nat × Option (Int × Int)) : Bool × Int × Int × Nat × Option (Int × Int) := (true, v0, s4.1, s4.2.2.1, s4.2.2.2)
def rdX (v0 : Int) (s6 : Int × List Int × Nat × Option (Int × Int)) : Bool × Int × Int × Nat × Option (Int × Int) := (false, v0, s6.1, s6.2.2.1, s6.2.2.2)
/-- How far the document's Read is. -/
def St (zs : List Int) (i many : Nat) (L : List Int) : Prop :=
  (i = 0 ∧ many = 2 ∧ L = []) ∨
  (i = 1 ∧ many = 2 ∧ ∃ v0, L = [v0] ∧ rdAll zs = rd2 v0 (stepN [0, 1] (zs.drop 4) 4 none)) ∨
  (i = 2 ∧ many = 4 ∧ ∃ v0 v1, L = [v0, v1] ∧ rdAll zs = rdY v0 (stepN [0] (zs.drop 8) 8 none)) ∨
  (i = 3 ∧ many = 4 ∧ ∃ v0 v1 v2, L = [v0, v1, v2] ∧ rdAll zs = rdZ v0 (stepN [] (zs.drop 12) 12 none)) ∨
  (i = 4 ∧ many = 4 ∧ ∃ v0 v1 v2 v3, L = [v0, v1, v2, v3] ∧ rdAll zs = (true, v0, v3, 16, none)) ∨
  (i = 2 ∧ many = 6 ∧ ∃ v0 v1, L = [v0, v1] ∧ rdAll zs = rd3 v0 (stepN [2] (zs.drop 8) 8 none)) ∨
  (i = 3 ∧ many = 6 ∧ ∃ v0 v1 v2, L = [v0, v1, v2] ∧ rdAll zs = rd4 v0 (stepN [536870913] (zs.drop 12) 12 none)) ∨
  (i = 4 ∧ many = 6 ∧ ∃ v0 v1 v2 v3, L = [v0, v1, v2, v3] ∧ rdAll zs = rd5 v0 (stepN [1] (zs.drop 16) 16 none)) ∨
  (i = 5 ∧ many = 6 ∧ ∃ v0 v1 v2 v3 v4, L = [v0, v1, v2, v3, v4] ∧ rdAll zs = rdX v0 (stepN [] (zs.drop 20) 20 none)) ∨
  (i = 6 ∧ many = 6 ∧ ∃ v0 v1 v2 v3 v4 v5, L = [v0, v1, v2, v3, v4, v5] ∧ rdAll zs = (false, v0, v5, 24, none))
theorem stepN_ok (l zs : List Int) (k q : Nat) (h : k + 4 ≤ zs.length) (hl : l = [] ∨ val ((zs.drop k).take 4) ∈ l) : stepN l (zs.drop k) q none = (val ((zs.drop k).take 4), zs.drop (k + 4), q + 4, none) := by
  unfold stepN
  rw [if_neg (by rw [List.length_drop]; omega), if_pos hl, List.drop_drop]
theorem stepN_bad (l zs : List Int) (k q : Nat) (h : k + 4 ≤ zs.length) (hl : ¬ (l = [] ∨ val ((zs.drop k).take 4) ∈ l)) : stepN l (zs.drop k) q none = (0, zs.drop (k + 4), q, some (2, (q : Int))) := by
  unfold stepN
  rw [if_neg (by rw [List.length_drop]; omega), if_neg hl, List.drop_drop]
theorem stepN_cut (l zs : List Int) (k q : Nat) (h : zs.length < k + 4) : stepN l (zs.drop k) q none = (0, [], q, some (3, (q : Int))) := stepN_short _ _ _ (by rw [List.length_drop]; omega)
/-- What the document's Read answers. -/
def XIs (zs : List Int) (r : Ending) : Bool × Int × Int × Nat × Option (Int × Int) → Prop
  | (b, x, p, k, none) => r = .returned (.agg #[.bool b, .int .u32 x, .int .u32 p, .string (strOfNums (zs.drop k)), .int .i64 0, .int .i64 (-1)])
  | (_, _, _, _, some (n, q)) => r = .returned (.agg #[.bool false, .int .u32 0, .int .u32 0, .string ⟨#[]⟩, .int .i64 n, .int .i64 q])
/-- The same, where something is wrong. -/
theorem XIs.bad {zs : List Int} {r : Ending} {R : Bool × Int × Int × Nat × Option (Int × Int)} {n q : Int} (h : R.2.2.2.2 = some (n, q)) (hr : r = .returned (.agg #[.bool false, .int .u32 0, .int .u32 0, .string ⟨#[]⟩, .int .i64 n, .int .i64 q])) : XIs zs r R := by
  obtain ⟨b, x, p, k, f⟩ := R
  simp only at h
  subst h
  exact hr
theorem blk6 {w : World} {g : Nat} {a b c d e f : Value} {t : TypeId} (h : w.heap[g]? = some (.cells #[a, b, c, d, e, f] t (0, 0))) :
    w.cell? ⟨g, 0, none⟩ = some a ∧ w.cell? ⟨g, 1, none⟩ = some b ∧ w.cell? ⟨g, 2, none⟩ = some c ∧ w.cell? ⟨g, 3, none⟩ = some d ∧ w.cell? ⟨g, 4, none⟩ = some e ∧ w.cell? ⟨g, 5, none⟩ = some f ∧
      w.frozen? ⟨g, 0, none⟩ = false ∧ w.frozen? ⟨g, 1, none⟩ = false ∧ w.frozen? ⟨g, 2, none⟩ = false ∧ w.frozen? ⟨g, 3, none⟩ = false ∧ w.frozen? ⟨g, 4, none⟩ = false ∧ w.frozen? ⟨g, 5, none⟩ = false :=
  ⟨cell_of h 0, cell_of h 1, cell_of h 2, cell_of h 3, cell_of h 4, cell_of h 5, free_of h 0, free_of h 1, free_of h 2, free_of h 3, free_of h 4, free_of h 5⟩
/-- What holds ahead of a round. -/
structure RR (w wr : World) (g2 gR : Nat) (a : Option Addr) (n c i : Nat) (v4 : Value) (L : List Int) : Prop where
  own : Owns wr w.heap.size 23 v4 (uv L)
  rd : RW wr gR a n c i 0
  z : wr.heap[g2]? = some (.cells #[.bool false, .int .u32 0, .int .u32 0, .string ⟨#[]⟩, .int .i64 0, .int .i64 0] 39 (0, 0))
  d : g2 ≠ gR
  lo : w.heap.size ≤ g2 ∧ w.heap.size ≤ gR
  ext : Ext w wr

theorem RR.on {w wr wr' : World} {g2 gR : Nat} {a : Option Addr} {n c i : Nat} {v4 : Value} {L : List Int} (h : RR w wr g2 gR a n c i v4 L) (hx : Ext wr wr') : RR w wr' g2 gR a n c i v4 L :=
  ⟨h.own.ext hx, hx.heap h.rd, hx.heap h.z, h.d, h.lo, h.ext.trans hx⟩
theorem Owns.notT {w : World} {base : Nat} {e t : TypeId} {v : Value} {xs : List Value} {g : Nat} {cs : Array Value} (h : Owns w base e v xs) (hg : w.heap[g]? = some (.cells cs t (0, 0))) (he : e ≠ t) : v.ownBlock ≠ some g := by
  intro hv
  rcases h.form with ⟨rfl, _⟩ | ⟨g1, c1, k1, rfl, _, _, _, hh1, _⟩
  · simp [Value.ownBlock] at hv
  · simp only [Value.ownBlock, Option.some.injEq] at hv
    subst hv
    rw [hg] at hh1
    injection hh1 with hh1
    injection hh1 with _ h _
    exact he h.symm
theorem Owns.updT {w w' : World} {base : Nat} {e t : TypeId} {v : Value} {xs : List Value} {g : Nat} {cs cs' : Array Value} (h : Owns w base e v xs) (hu : Upd [g] w w') (_hg' : w'.heap[g]? = some (.cells cs' t (0, 0))) (hg : w.heap[g]? = some (.cells cs t (0, 0))) (he : e ≠ t) : Owns w' base e v xs :=
  h.upd hu (fun b hb => by simp only [List.mem_singleton]; intro e2; subst e2; exact h.notT hg he hb)
set_option maxRecDepth 100000 in
set_option maxHeartbeats 16000000 in
theorem refRead_any (a : Option Addr) (n c : Nat) (zs : List Int) (hn : n ≤ 100000) (w : World) (h : IsRow .u8 w a n c zs) (ha : Plain a c) :
    Calls Tryd.prog 11 #[.slice a n c] w fun r w' => XIs zs r (rdAll zs) ∧ Ext w w' := by
  have H := Lib.hid h
  have HA := Lib.hid ha
  have hlc := h.2.1
  have hcm := h.2.2.1
  unfold maxLen at hcm
  have HL := Lib.hid h.1
  clear h ha
  go_enter Tryd.func11, Tryd.ntmps11
  go_wp2_with fail
  obtain ⟨W0, hW0⟩ : ∃ W0, W0 = (w.alloc (.cells #[.bool false, .int .u32 0, .int .u32 0, .string ⟨#[]⟩, .int .i64 0, .int .i64 0] 39)).alloc (.cells #[.slice a n c, .int .i64 0, .int .i64 0] 66) := ⟨_, rfl⟩
  have HRR0 := Lib.hid (show RR w W0 w.heap.size (w.heap.size + 1) a n c 0 (.slice none 0 0) [] by
    rw [hW0]
    exact ⟨Owns.nil _ _ _, heap_alloc2_new w _ _, heap_alloc2_old w _ _, by omega, by omega, ((Ext.refl w).alloc _).alloc _⟩)
  rw [← hW0]
  clear hW0
  go_loopw [4, 5, 6] (fun v4 v5 v6 wr => ∃ (i many : Nat) (L : List Int), v5 = .int .i64 many ∧ v6 = .int .i64 i ∧ 4 * i ≤ n ∧ St zs i many L ∧ RR w wr w.heap.size (w.heap.size + 1) a n c (4 * i) v4 L) (fun _ _ v6 _ => 6 - (intOf v6).toNat)
  case atStart => exact ⟨0, 2, [], rfl, rfl, by omega, .inl ⟨rfl, rfl, rfl⟩, HRR0.out⟩
  case round =>
    obtain ⟨i, many, L, rfl, rfl, hin, hst, hrr⟩ := hrel
    have HRR := Lib.hid hrr
    clear hrr
    rcases hst with ⟨rfl, rfl, rfl⟩ | ⟨rfl, rfl, v0, rfl, hq⟩ | ⟨rfl, rfl, v0, v1, rfl, hq⟩ | ⟨rfl, rfl, v0, v1, v2, rfl, hq⟩ | ⟨rfl, rfl, v0, v1, v2, v3, rfl, hq⟩ | ⟨rfl, rfl, v0, v1, rfl, hq⟩ | ⟨rfl, rfl, v0, v1, v2, rfl, hq⟩ | ⟨rfl, rfl, v0, v1, v2, v3, rfl, hq⟩ | ⟨rfl, rfl, v0, v1, v2, v3, v4, rfl, hq⟩ | ⟨rfl, rfl, v0, v1, v2, v3, v4, v5, rfl, hq⟩
    · have hrr : RR w wr w.heap.size (w.heap.size + 1) a n c 0 u4 [] := HRR.out
      have hin0 : 0 ≤ n := hin
      obtain ⟨y0, y1, y2, y3, y4, y5, z0, z1, z2, z3, z4, z5⟩ := blk6 hrr.z
      have lz := lt_of_heap hrr.z
      have lr := lt_of_heap hrr.rd
      have HR := Lib.hid hrr
      clear hrr HRR hin
      by_cases hsh : n < 4
      · have HF := Lib.hid (show (rdAll zs).2.2.2.2 = some (3, (0 : Int)) by
          rw [rdAll_eq, show zs = zs.drop 0 from rfl, stepN_cut _ _ _ _ (by rw [HL.out]; omega), stepN_some, rd_some _ _ (by omega)]; rfl)
        go_wp2_with fail
        refine (ru32_short (w.heap.size + 1) a n c 0 (by omega) (by omega) hn wr HR.out.rd).mono ?_
        rintro r w1 ⟨rfl, hr1, hu1⟩
        have hz1 := hu1.heap HR.out.z (by simp)
        obtain ⟨y0', y1', y2', y3', y4', y5', z0', z1', z2', z3', z4', z5'⟩ := blk6 hz1
        have lz' := lt_of_heap hz1
        have lr' := lt_of_heap hr1
        obtain ⟨c0, c1, c2, _, _, _⟩ := blk3 hr1
        have HX1 := Lib.hid (hu1.ext HR.out.ext (by simp))
        clear hr1 hu1 hz1 y0 y1 y2 y3 y4 y5 z0 z1 z2 z3 z4 z5
        go_wp2_with fail
        have u := ((((((Upd.refl [w.heap.size] w1).setCell ⟨w.heap.size, 0, none⟩ (.bool false) (by simp)).setCell ⟨w.heap.size, 1, none⟩ (.int .u32 0) (by simp)).setCell ⟨w.heap.size, 2, none⟩ (.int .u32 0) (by simp)).setCell ⟨w.heap.size, 3, none⟩ (.string ⟨#[]⟩) (by simp)).setCell ⟨w.heap.size, 4, none⟩ (.int .i64 3) (by simp)).setCell ⟨w.heap.size, 5, none⟩ (.int .i64 0) (by simp)
        exact bodyPost_ret (v := .agg #[.bool false, .int .u32 0, .int .u32 0, .string ⟨#[]⟩, .int .i64 3, .int .i64 0]) (by simp [results, Tryd.results11, go_sem, *]) rfl ⟨XIs.bad HF.out rfl, u.ext HX1.out (by simp)⟩
      · obtain ⟨gb, o, rfl⟩ : ∃ g o, a = some ⟨g, o, none⟩ := by
          rcases H.out.2.2.2.2 with h0 | ⟨g, o, h0, _⟩
          · omega
          · exact ⟨g, o, h0⟩
        have hvb := val_bd (zs := zs.drop 0) (fun z hz => H.out.2.2.2.1 z (List.mem_of_mem_drop hz)) 4 (by rw [List.length_drop, HL.out]; omega)
        have hlen : 0 + 4 ≤ zs.length := by rw [HL.out]; omega
        have HN := Lib.hid (show True → St zs 1 2 [val ((zs.drop 0).take 4)] from fun hc => by
          refine .inr (.inl ⟨rfl, rfl, _, rfl, ?_⟩)
          rw [rdAll_eq, show stepN [] zs 0 none = stepN [] (zs.drop 0) 0 none from rfl, stepN_ok _ _ _ _ hlen (by exact .inl rfl)]
          try rfl)
        have HU := Lib.hid (ru32_ok (w.heap.size + 1) gb o n c 0 zs (by omega) hn wr HR.out.rd (H.out.ext HR.out.ext))
        generalize val ((zs.drop 0).take 4) = v at *
        clear hlen
        go_wp2_with fail
        refine HU.out.mono ?_
        rintro r w1 ⟨rfl, hr1, hu1⟩
        have hz1 := hu1.heap HR.out.z (by simp)
        have hx1 := hu1.ext HR.out.ext (by simp)
        have ho1 := HR.out.own.updT hu1 hr1 HR.out.rd (by decide)
        obtain ⟨v', w2, p1, p2, p3⟩ := moreU ho1 v (by simp) hx1.size
        have hx2 : Ext w w2 := grown_ext p3 (hx1.alloc _) (fun g hg => (ho1.lt hg).1)
        have hz2 := grown_heap p3 (((Ext.refl w1).alloc _).heap hz1) (fun e => ho1.notT hz1 (by decide) e.symm)
        have hr2 := grown_heap p3 (((Ext.refl w1).alloc _).heap hr1) (fun e => ho1.notT hr1 (by decide) e.symm)
        obtain ⟨y0', y1', y2', y3', y4', y5', z0', z1', z2', z3', z4', z5'⟩ := blk6 hz2
        have lz' := lt_of_heap hz2
        obtain ⟨c0, c1, c2, _, _, _⟩ := blk3 hr1
        have lr' := lt_of_heap hr1
        have HR2 := Lib.hid (show RR w w2 w.heap.size (w.heap.size + 1) (some ⟨gb, o, none⟩) n c (0 + 4) v' [v] from ⟨p2, hr2, hz2, by omega, by omega, hx2⟩)
        have P1 := Lib.hid p1
        clear hr1 hu1 hz1 hx1 ho1 p1 p2 p3 hx2 hz2 hr2 y0 y1 y2 y3 y4 y5 z0 z1 z2 z3 z4 z5
        go_wp2_with (at_builtin; refine wpList_append_run rfl (.tmp 27) (.tmp 29) _ rfl _ _ _ ?_ ?_ P1.out ?_)
        · rfl
        · rfl
        · go_roundw
          case rel => exact ⟨1, 2, _, rfl, rfl, by omega, HN.out trivial, HR2.out⟩
          case measure => simp [intOf]
    · have hrr : RR w wr w.heap.size (w.heap.size + 1) a n c 4 u4 [v0] := HRR.out
      have hin1 : 4 ≤ n := hin
      obtain ⟨y0, y1, y2, y3, y4, y5, z0, z1, z2, z3, z4, z5⟩ := blk6 hrr.z
      have lz := lt_of_heap hrr.z
      have lr := lt_of_heap hrr.rd
      have HR := Lib.hid hrr
      have HQ := Lib.hid hq
      clear hrr HRR hin hq
      by_cases hsh : n < 8
      · have HF := Lib.hid (show (rdAll zs).2.2.2.2 = some (3, (4 : Int)) by
          rw [HQ.out, stepN_cut _ _ _ _ (by rw [HL.out]; omega)]; rfl)
        go_wp2_with fail
        refine (ru32_short (w.heap.size + 1) a n c 4 (by omega) (by omega) hn wr HR.out.rd).mono ?_
        rintro r w1 ⟨rfl, hr1, hu1⟩
        have hz1 := hu1.heap HR.out.z (by simp)
        obtain ⟨y0', y1', y2', y3', y4', y5', z0', z1', z2', z3', z4', z5'⟩ := blk6 hz1
        have lz' := lt_of_heap hz1
        have lr' := lt_of_heap hr1
        obtain ⟨c0, c1, c2, _, _, _⟩ := blk3 hr1
        have HX1 := Lib.hid (hu1.ext HR.out.ext (by simp))
        clear hr1 hu1 hz1 y0 y1 y2 y3 y4 y5 z0 z1 z2 z3 z4 z5
        go_wp2_with fail
        have u := ((((((Upd.refl [w.heap.size] w1).setCell ⟨w.heap.size, 0, none⟩ (.bool false) (by simp)).setCell ⟨w.heap.size, 1, none⟩ (.int .u32 0) (by simp)).setCell ⟨w.heap.size, 2, none⟩ (.int .u32 0) (by simp)).setCell ⟨w.heap.size, 3, none⟩ (.string ⟨#[]⟩) (by simp)).setCell ⟨w.heap.size, 4, none⟩ (.int .i64 3) (by simp)).setCell ⟨w.heap.size, 5, none⟩ (.int .i64 4) (by simp)
        exact bodyPost_ret (v := .agg #[.bool false, .int .u32 0, .int .u32 0, .string ⟨#[]⟩, .int .i64 3, .int .i64 4]) (by simp [results, Tryd.results11, go_sem, *]) rfl ⟨XIs.bad HF.out rfl, u.ext HX1.out (by simp)⟩
      · obtain ⟨gb, o, rfl⟩ : ∃ g o, a = some ⟨g, o, none⟩ := by
          rcases H.out.2.2.2.2 with h0 | ⟨g, o, h0, _⟩
          · omega
          · exact ⟨g, o, h0⟩
        have hvb := val_bd (zs := zs.drop 4) (fun z hz => H.out.2.2.2.1 z (List.mem_of_mem_drop hz)) 4 (by rw [List.length_drop, HL.out]; omega)
        have hlen : 4 + 4 ≤ zs.length := by rw [HL.out]; omega
        have HN1 := Lib.hid (show val ((zs.drop 4).take 4) = 1 → St zs 2 4 [v0, val ((zs.drop 4).take 4)] from fun hc => by
          refine .inr (.inr (.inl ⟨rfl, rfl, _, _, rfl, ?_⟩))
          rw [HQ.out, stepN_ok _ _ _ _ hlen (by exact .inr (by rw [hc]; simp))]
          (try rw [hc]); (try rfl))
        have HN0 := Lib.hid (show val ((zs.drop 4).take 4) = 0 → St zs 2 6 [v0, val ((zs.drop 4).take 4)] from fun hc => by
          refine .inr (.inr (.inr (.inr (.inr (.inl ⟨rfl, rfl, _, _, rfl, ?_⟩)))))
          rw [HQ.out, stepN_ok _ _ _ _ hlen (by exact .inr (by rw [hc]; simp))]
          rw [hc]; exact rd2_no _ _ (by omega) _ _ _)
        have HBD := Lib.hid (show val ((zs.drop 4).take 4) ∉ ([0, 1] : List Int) → (rdAll zs).2.2.2.2 = some (2, (4 : Int)) from fun hc => by
          rw [HQ.out, stepN_bad _ _ _ _ hlen (by simpa using hc)]
          exact rd_some _ _ (by omega) _ _ _)
        have HU := Lib.hid (ru32_ok (w.heap.size + 1) gb o n c 4 zs (by omega) hn wr HR.out.rd (H.out.ext HR.out.ext))
        generalize val ((zs.drop 4).take 4) = v at *
        clear hlen
        go_wp2_with fail
        refine HU.out.mono ?_
        rintro r w1 ⟨rfl, hr1, hu1⟩
        have hz1 := hu1.heap HR.out.z (by simp)
        have hx1 := hu1.ext HR.out.ext (by simp)
        have ho1 := HR.out.own.updT hu1 hr1 HR.out.rd (by decide)
        obtain ⟨v', w2, p1, p2, p3⟩ := moreU ho1 v (by simp) hx1.size
        have hx2 : Ext w w2 := grown_ext p3 (hx1.alloc _) (fun g hg => (ho1.lt hg).1)
        have hz2 := grown_heap p3 (((Ext.refl w1).alloc _).heap hz1) (fun e => ho1.notT hz1 (by decide) e.symm)
        have hr2 := grown_heap p3 (((Ext.refl w1).alloc _).heap hr1) (fun e => ho1.notT hr1 (by decide) e.symm)
        obtain ⟨y0', y1', y2', y3', y4', y5', z0', z1', z2', z3', z4', z5'⟩ := blk6 hz2
        have lz' := lt_of_heap hz2
        obtain ⟨c0, c1, c2, _, _, _⟩ := blk3 hr1
        have lr' := lt_of_heap hr1
        have HR2 := Lib.hid (show RR w w2 w.heap.size (w.heap.size + 1) (some ⟨gb, o, none⟩) n c (4 + 4) v' [v0, v] from ⟨p2, hr2, hz2, by omega, by omega, hx2⟩)
        have P1 := Lib.hid p1
        clear hr1 hu1 hz1 hx1 ho1 p1 p2 p3 hx2 hz2 hr2 y0 y1 y2 y3 y4 y5 z0 z1 z2 z3 z4 z5
        rcases (show v = 0 ∨ v = 1 ∨ 1 < v by omega) with rfl | rfl | hv
        · skip
          go_wp2_with (at_builtin; refine wpList_append_run rfl (.tmp 27) (.tmp 29) _ rfl _ _ _ ?_ ?_ P1.out ?_)
          · rfl
          · rfl
          · go_roundw
            case rel => exact ⟨2, 6, _, rfl, rfl, by omega, HN0.out (by simp), HR2.out⟩
            case measure => simp [intOf]
        · skip
          go_wp2_with (at_builtin; refine wpList_append_run rfl (.tmp 27) (.tmp 29) _ rfl _ _ _ ?_ ?_ P1.out ?_)
          · rfl
          · rfl
          · go_roundw
            case rel => exact ⟨2, 4, _, rfl, rfl, by omega, HN1.out (by simp), HR2.out⟩
            case measure => simp [intOf]
        · have hd : decide (1 < v) = true := by simpa using hv
          have hd1 : (v == 1) = false := by simp; omega
          have HF := Lib.hid (HBD.out (by simp; omega))
          go_wp2_with (at_builtin; refine wpList_append_run rfl (.tmp 27) (.tmp 29) _ rfl _ _ _ ?_ ?_ P1.out ?_)
          · rfl
          · rfl
          · have HX2 := Lib.hid HR2.out.ext
            have u := ((((((Upd.refl [w.heap.size] w2).setCell ⟨w.heap.size, 0, none⟩ (.bool false) (by simp)).setCell ⟨w.heap.size, 1, none⟩ (.int .u32 0) (by simp)).setCell ⟨w.heap.size, 2, none⟩ (.int .u32 0) (by simp)).setCell ⟨w.heap.size, 3, none⟩ (.string ⟨#[]⟩) (by simp)).setCell ⟨w.heap.size, 4, none⟩ (.int .i64 2) (by simp)).setCell ⟨w.heap.size, 5, none⟩ (.int .i64 4) (by simp)
            exact bodyPost_ret (v := .agg #[.bool false, .int .u32 0, .int .u32 0, .string ⟨#[]⟩, .int .i64 2, .int .i64 4]) (by simp [results, Tryd.results11, go_sem, *]) rfl ⟨XIs.bad HF.out rfl, u.ext HX2.out (by simp)⟩
    · have hrr : RR w wr w.heap.size (w.heap.size + 1) a n c 8 u4 [v0, v1] := HRR.out
      have hin2 : 8 ≤ n := hin
      obtain ⟨y0, y1, y2, y3, y4, y5, z0, z1, z2, z3, z4, z5⟩ := blk6 hrr.z
      have lz := lt_of_heap hrr.z
      have lr := lt_of_heap hrr.rd
      have HR := Lib.hid hrr
      have HQ := Lib.hid hq
      clear hrr HRR hin hq
      by_cases hsh : n < 12
      · have HF := Lib.hid (show (rdAll zs).2.2.2.2 = some (3, (8 : Int)) by
          rw [HQ.out, stepN_cut _ _ _ _ (by rw [HL.out]; omega)]; rfl)
        go_wp2_with fail
        refine (ru32_short (w.heap.size + 1) a n c 8 (by omega) (by omega) hn wr HR.out.rd).mono ?_
        rintro r w1 ⟨rfl, hr1, hu1⟩
        have hz1 := hu1.heap HR.out.z (by simp)
        obtain ⟨y0', y1', y2', y3', y4', y5', z0', z1', z2', z3', z4', z5'⟩ := blk6 hz1
        have lz' := lt_of_heap hz1
        have lr' := lt_of_heap hr1
        obtain ⟨c0, c1, c2, _, _, _⟩ := blk3 hr1
        have HX1 := Lib.hid (hu1.ext HR.out.ext (by simp))
        clear hr1 hu1 hz1 y0 y1 y2 y3 y4 y5 z0 z1 z2 z3 z4 z5
        go_wp2_with fail
        have u := ((((((Upd.refl [w.heap.size] w1).setCell ⟨w.heap.size, 0, none⟩ (.bool false) (by simp)).setCell ⟨w.heap.size, 1, none⟩ (.int .u32 0) (by simp)).setCell ⟨w.heap.size, 2, none⟩ (.int .u32 0) (by simp)).setCell ⟨w.heap.size, 3, none⟩ (.string ⟨#[]⟩) (by simp)).setCell ⟨w.heap.size, 4, none⟩ (.int .i64 3) (by simp)).setCell ⟨w.heap.size, 5, none⟩ (.int .i64 8) (by simp)
        exact bodyPost_ret (v := .agg #[.bool false, .int .u32 0, .int .u32 0, .string ⟨#[]⟩, .int .i64 3, .int .i64 8]) (by simp [results, Tryd.results11, go_sem, *]) rfl ⟨XIs.bad HF.out rfl, u.ext HX1.out (by simp)⟩
      · obtain ⟨gb, o, rfl⟩ : ∃ g o, a = some ⟨g, o, none⟩ := by
          rcases H.out.2.2.2.2 with h0 | ⟨g, o, h0, _⟩
          · omega
          · exact ⟨g, o, h0⟩
        have hvb := val_bd (zs := zs.drop 8) (fun z hz => H.out.2.2.2.1 z (List.mem_of_mem_drop hz)) 4 (by rw [List.length_drop, HL.out]; omega)
        have hlen : 8 + 4 ≤ zs.length := by rw [HL.out]; omega
        have HN := Lib.hid (show val ((zs.drop 8).take 4) = 0 → St zs 3 4 [v0, v1, val ((zs.drop 8).take 4)] from fun hc => by
          refine .inr (.inr (.inr (.inl ⟨rfl, rfl, _, _, _, rfl, ?_⟩)))
          rw [HQ.out, stepN_ok _ _ _ _ hlen (by exact .inr (by rw [hc]; simp))]
          try rfl)
        have HBD := Lib.hid (show val ((zs.drop 8).take 4) ∉ ([0] : List Int) → (rdAll zs).2.2.2.2 = some (2, (8 : Int)) from fun hc => by
          rw [HQ.out, stepN_bad _ _ _ _ hlen (by simpa using hc)]
          rfl)
        have HU := Lib.hid (ru32_ok (w.heap.size + 1) gb o n c 8 zs (by omega) hn wr HR.out.rd (H.out.ext HR.out.ext))
        generalize val ((zs.drop 8).take 4) = v at *
        clear hlen
        go_wp2_with fail
        refine HU.out.mono ?_
        rintro r w1 ⟨rfl, hr1, hu1⟩
        have hz1 := hu1.heap HR.out.z (by simp)
        have hx1 := hu1.ext HR.out.ext (by simp)
        have ho1 := HR.out.own.updT hu1 hr1 HR.out.rd (by decide)
        obtain ⟨v', w2, p1, p2, p3⟩ := moreU ho1 v (by simp) hx1.size
        have hx2 : Ext w w2 := grown_ext p3 (hx1.alloc _) (fun g hg => (ho1.lt hg).1)
        have hz2 := grown_heap p3 (((Ext.refl w1).alloc _).heap hz1) (fun e => ho1.notT hz1 (by decide) e.symm)
        have hr2 := grown_heap p3 (((Ext.refl w1).alloc _).heap hr1) (fun e => ho1.notT hr1 (by decide) e.symm)
        obtain ⟨y0', y1', y2', y3', y4', y5', z0', z1', z2', z3', z4', z5'⟩ := blk6 hz2
        have lz' := lt_of_heap hz2
        obtain ⟨c0, c1, c2, _, _, _⟩ := blk3 hr1
        have lr' := lt_of_heap hr1
        have HR2 := Lib.hid (show RR w w2 w.heap.size (w.heap.size + 1) (some ⟨gb, o, none⟩) n c (8 + 4) v' [v0, v1, v] from ⟨p2, hr2, hz2, by omega, by omega, hx2⟩)
        have P1 := Lib.hid p1
        clear hr1 hu1 hz1 hx1 ho1 p1 p2 p3 hx2 hz2 hr2 y0 y1 y2 y3 y4 y5 z0 z1 z2 z3 z4 z5
        by_cases hv : v = 0
        · subst hv
          go_wp2_with (at_builtin; refine wpList_append_run rfl (.tmp 27) (.tmp 29) _ rfl _ _ _ ?_ ?_ P1.out ?_)
          · rfl
          · rfl
          · go_roundw
            case rel => exact ⟨3, 4, _, rfl, rfl, by omega, HN.out (by simp), HR2.out⟩
            case measure => simp [intOf]
        · have hd : (v != 0) = true := by simpa using hv
          have HF := Lib.hid (HBD.out (by simpa using hv))
          go_wp2_with (at_builtin; refine wpList_append_run rfl (.tmp 27) (.tmp 29) _ rfl _ _ _ ?_ ?_ P1.out ?_)
          · rfl
          · rfl
          · have HX2 := Lib.hid HR2.out.ext
            have u := ((((((Upd.refl [w.heap.size] w2).setCell ⟨w.heap.size, 0, none⟩ (.bool false) (by simp)).setCell ⟨w.heap.size, 1, none⟩ (.int .u32 0) (by simp)).setCell ⟨w.heap.size, 2, none⟩ (.int .u32 0) (by simp)).setCell ⟨w.heap.size, 3, none⟩ (.string ⟨#[]⟩) (by simp)).setCell ⟨w.heap.size, 4, none⟩ (.int .i64 2) (by simp)).setCell ⟨w.heap.size, 5, none⟩ (.int .i64 8) (by simp)
            exact bodyPost_ret (v := .agg #[.bool false, .int .u32 0, .int .u32 0, .string ⟨#[]⟩, .int .i64 2, .int .i64 8]) (by simp [results, Tryd.results11, go_sem, *]) rfl ⟨XIs.bad HF.out rfl, u.ext HX2.out (by simp)⟩
    · have hrr : RR w wr w.heap.size (w.heap.size + 1) a n c 12 u4 [v0, v1, v2] := HRR.out
      have hin3 : 12 ≤ n := hin
      obtain ⟨y0, y1, y2, y3, y4, y5, z0, z1, z2, z3, z4, z5⟩ := blk6 hrr.z
      have lz := lt_of_heap hrr.z
      have lr := lt_of_heap hrr.rd
      have HR := Lib.hid hrr
      have HQ := Lib.hid hq
      clear hrr HRR hin hq
      by_cases hsh : n < 16
      · have HF := Lib.hid (show (rdAll zs).2.2.2.2 = some (3, (12 : Int)) by
          rw [HQ.out, stepN_cut _ _ _ _ (by rw [HL.out]; omega)]; rfl)
        go_wp2_with fail
        refine (ru32_short (w.heap.size + 1) a n c 12 (by omega) (by omega) hn wr HR.out.rd).mono ?_
        rintro r w1 ⟨rfl, hr1, hu1⟩
        have hz1 := hu1.heap HR.out.z (by simp)
        obtain ⟨y0', y1', y2', y3', y4', y5', z0', z1', z2', z3', z4', z5'⟩ := blk6 hz1
        have lz' := lt_of_heap hz1
        have lr' := lt_of_heap hr1
        obtain ⟨c0, c1, c2, _, _, _⟩ := blk3 hr1
        have HX1 := Lib.hid (hu1.ext HR.out.ext (by simp))
        clear hr1 hu1 hz1 y0 y1 y2 y3 y4 y5 z0 z1 z2 z3 z4 z5
        go_wp2_with fail
        have u := ((((((Upd.refl [w.heap.size] w1).setCell ⟨w.heap.size, 0, none⟩ (.bool false) (by simp)).setCell ⟨w.heap.size, 1, none⟩ (.int .u32 0) (by simp)).setCell ⟨w.heap.size, 2, none⟩ (.int .u32 0) (by simp)).setCell ⟨w.heap.size, 3, none⟩ (.string ⟨#[]⟩) (by simp)).setCell ⟨w.heap.size, 4, none⟩ (.int .i64 3) (by simp)).setCell ⟨w.heap.size, 5, none⟩ (.int .i64 12) (by simp)
        exact bodyPost_ret (v := .agg #[.bool false, .int .u32 0, .int .u32 0, .string ⟨#[]⟩, .int .i64 3, .int .i64 12]) (by simp [results, Tryd.results11, go_sem, *]) rfl ⟨XIs.bad HF.out rfl, u.ext HX1.out (by simp)⟩
      · obtain ⟨gb, o, rfl⟩ : ∃ g o, a = some ⟨g, o, none⟩ := by
          rcases H.out.2.2.2.2 with h0 | ⟨g, o, h0, _⟩
          · omega
          · exact ⟨g, o, h0⟩
        have hvb := val_bd (zs := zs.drop 12) (fun z hz => H.out.2.2.2.1 z (List.mem_of_mem_drop hz)) 4 (by rw [List.length_drop, HL.out]; omega)
        have hlen : 12 + 4 ≤ zs.length := by rw [HL.out]; omega
        have HN := Lib.hid (show True → St zs 4 4 [v0, v1, v2, val ((zs.drop 12).take 4)] from fun hc => by
          refine .inr (.inr (.inr (.inr (.inl ⟨rfl, rfl, _, _, _, _, rfl, ?_⟩))))
          rw [HQ.out, stepN_ok _ _ _ _ hlen (by exact .inl rfl)]
          try rfl)
        have HU := Lib.hid (ru32_ok (w.heap.size + 1) gb o n c 12 zs (by omega) hn wr HR.out.rd (H.out.ext HR.out.ext))
        generalize val ((zs.drop 12).take 4) = v at *
        clear hlen
        go_wp2_with fail
        refine HU.out.mono ?_
        rintro r w1 ⟨rfl, hr1, hu1⟩
        have hz1 := hu1.heap HR.out.z (by simp)
        have hx1 := hu1.ext HR.out.ext (by simp)
        have ho1 := HR.out.own.updT hu1 hr1 HR.out.rd (by decide)
        obtain ⟨v', w2, p1, p2, p3⟩ := moreU ho1 v (by simp) hx1.size
        have hx2 : Ext w w2 := grown_ext p3 (hx1.alloc _) (fun g hg => (ho1.lt hg).1)
        have hz2 := grown_heap p3 (((Ext.refl w1).alloc _).heap hz1) (fun e => ho1.notT hz1 (by decide) e.symm)
        have hr2 := grown_heap p3 (((Ext.refl w1).alloc _).heap hr1) (fun e => ho1.notT hr1 (by decide) e.symm)
        obtain ⟨y0', y1', y2', y3', y4', y5', z0', z1', z2', z3', z4', z5'⟩ := blk6 hz2
        have lz' := lt_of_heap hz2
        obtain ⟨c0, c1, c2, _, _, _⟩ := blk3 hr1
        have lr' := lt_of_heap hr1
        have HR2 := Lib.hid (show RR w w2 w.heap.size (w.heap.size + 1) (some ⟨gb, o, none⟩) n c (12 + 4) v' [v0, v1, v2, v] from ⟨p2, hr2, hz2, by omega, by omega, hx2⟩)
        have P1 := Lib.hid p1
        clear hr1 hu1 hz1 hx1 ho1 p1 p2 p3 hx2 hz2 hr2 y0 y1 y2 y3 y4 y5 z0 z1 z2 z3 z4 z5
        go_wp2_with (at_builtin; refine wpList_append_run rfl (.tmp 27) (.tmp 29) _ rfl _ _ _ ?_ ?_ P1.out ?_)
        · rfl
        · rfl
        · go_roundw
          case rel => exact ⟨4, 4, _, rfl, rfl, by omega, HN.out trivial, HR2.out⟩
          case measure => simp [intOf]
    · have hrr : RR w wr w.heap.size (w.heap.size + 1) a n c 16 u4 [v0, v1, v2, v3] := HRR.out
      have hin4 : 16 ≤ n := hin
      obtain ⟨y0, y1, y2, y3, y4, y5, z0, z1, z2, z3, z4, z5⟩ := blk6 hrr.z
      have lz := lt_of_heap hrr.z
      have lr := lt_of_heap hrr.rd
      have HR := Lib.hid hrr
      have HQ := Lib.hid hq
      clear hrr HRR hin hq
      obtain ⟨gb, o, rfl⟩ : ∃ g o, a = some ⟨g, o, none⟩ := by
        rcases H.out.2.2.2.2 with h0 | ⟨g, o, h0, _⟩
        · omega
        · exact ⟨g, o, h0⟩
      obtain ⟨gl, cl, hv4, _, lg, hcl1, hcl2, q0, _⟩ := HR.out.own.cell (i := 0) (by simp [uv])
      obtain ⟨gl2, cl2, hv42, _, _, _, _, q1, _⟩ := HR.out.own.cell (i := 3) (by simp [uv])
      rw [hv4] at hv42
      injection hv42 with e1 e2 e3
      injection e1 with e1
      injection e1 with e1 _ _
      subst e1
      have ql : (uv [v0, v1, v2, v3]).length = 4 := rfl
      rw [ql] at hv4 hcl1
      have qq0 : wr.cell? ⟨gl, 0, none⟩ = some (.int .u32 v0) := q0
      have qq1 : wr.cell? ⟨gl, 3, none⟩ = some (.int .u32 v3) := q1
      clear q0 q1
      subst hv4
      unfold maxLen at hcl2
      clear e2 e3 ql
      by_cases hck : c = 16
      · subst hck
        have hS := (((H.out.ext HR.out.ext.drew).cut (j := 16) (by omega) (some ⟨gb, o, none⟩) (fun h => by omega))).str
        rw [show n - 16 = 0 by omega, Nat.sub_self] at hS
        go_wp2_with fail
        go_region
        go_wp2_with fail
        have u := (((((((Upd.refl [w.heap.size] wr).setCell ⟨w.heap.size, 0, none⟩ (.bool true) (by simp)).setCell ⟨w.heap.size, 1, none⟩ (.int .u32 v0) (by simp)).setCell ⟨w.heap.size, 2, none⟩ (.int .u32 v3) (by simp)).setCell ⟨w.heap.size, 3, none⟩ (.string (strOfNums (zs.drop 16))) (by simp)).setCell ⟨w.heap.size, 4, none⟩ (.int .i64 0) (by simp)).setCell ⟨w.heap.size, 5, none⟩ (.int .i64 (-1)) (by simp)).drew
        exact bodyPost_ret (v := .agg #[.bool true, .int .u32 v0, .int .u32 v3, .string (strOfNums (zs.drop 16)), .int .i64 0, .int .i64 (-1)]) (by simp [results, Tryd.results11, go_sem, *]) rfl ⟨by rw [HQ.out]; rfl, u.ext HR.out.ext (by simp)⟩
      · have hS := (((H.out.ext HR.out.ext.drew).cut (j := 16) (by omega) (some ⟨gb, o + 16, none⟩) (fun _ => rfl))).str
        go_wp2_with fail
        go_region
        go_wp2_with fail
        have u := (((((((Upd.refl [w.heap.size] wr).setCell ⟨w.heap.size, 0, none⟩ (.bool true) (by simp)).setCell ⟨w.heap.size, 1, none⟩ (.int .u32 v0) (by simp)).setCell ⟨w.heap.size, 2, none⟩ (.int .u32 v3) (by simp)).setCell ⟨w.heap.size, 3, none⟩ (.string (strOfNums (zs.drop 16))) (by simp)).setCell ⟨w.heap.size, 4, none⟩ (.int .i64 0) (by simp)).setCell ⟨w.heap.size, 5, none⟩ (.int .i64 (-1)) (by simp)).drew
        exact bodyPost_ret (v := .agg #[.bool true, .int .u32 v0, .int .u32 v3, .string (strOfNums (zs.drop 16)), .int .i64 0, .int .i64 (-1)]) (by simp [results, Tryd.results11, go_sem, *]) rfl ⟨by rw [HQ.out]; rfl, u.ext HR.out.ext (by simp)⟩
    · have hrr : RR w wr w.heap.size (w.heap.size + 1) a n c 8 u4 [v0, v1] := HRR.out
      have hin2 : 8 ≤ n := hin
      obtain ⟨y0, y1, y2, y3, y4, y5, z0, z1, z2, z3, z4, z5⟩ := blk6 hrr.z
      have lz := lt_of_heap hrr.z
      have lr := lt_of_heap hrr.rd
      have HR := Lib.hid hrr
      have HQ := Lib.hid hq
      clear hrr HRR hin hq
      by_cases hsh : n < 12
      · have HF := Lib.hid (show (rdAll zs).2.2.2.2 = some (3, (8 : Int)) by
          rw [HQ.out, stepN_cut _ _ _ _ (by rw [HL.out]; omega)]; rfl)
        go_wp2_with fail
        refine (ru32_short (w.heap.size + 1) a n c 8 (by omega) (by omega) hn wr HR.out.rd).mono ?_
        rintro r w1 ⟨rfl, hr1, hu1⟩
        have hz1 := hu1.heap HR.out.z (by simp)
        obtain ⟨y0', y1', y2', y3', y4', y5', z0', z1', z2', z3', z4', z5'⟩ := blk6 hz1
        have lz' := lt_of_heap hz1
        have lr' := lt_of_heap hr1
        obtain ⟨c0, c1, c2, _, _, _⟩ := blk3 hr1
        have HX1 := Lib.hid (hu1.ext HR.out.ext (by simp))
        clear hr1 hu1 hz1 y0 y1 y2 y3 y4 y5 z0 z1 z2 z3 z4 z5
        go_wp2_with fail
        have u := ((((((Upd.refl [w.heap.size] w1).setCell ⟨w.heap.size, 0, none⟩ (.bool false) (by simp)).setCell ⟨w.heap.size, 1, none⟩ (.int .u32 0) (by simp)).setCell ⟨w.heap.size, 2, none⟩ (.int .u32 0) (by simp)).setCell ⟨w.heap.size, 3, none⟩ (.string ⟨#[]⟩) (by simp)).setCell ⟨w.heap.size, 4, none⟩ (.int .i64 3) (by simp)).setCell ⟨w.heap.size, 5, none⟩ (.int .i64 8) (by simp)
        exact bodyPost_ret (v := .agg #[.bool false, .int .u32 0, .int .u32 0, .string ⟨#[]⟩, .int .i64 3, .int .i64 8]) (by simp [results, Tryd.results11, go_sem, *]) rfl ⟨XIs.bad HF.out rfl, u.ext HX1.out (by simp)⟩
      · obtain ⟨gb, o, rfl⟩ : ∃ g o, a = some ⟨g, o, none⟩ := by
          rcases H.out.2.2.2.2 with h0 | ⟨g, o, h0, _⟩
          · omega
          · exact ⟨g, o, h0⟩
        have hvb := val_bd (zs := zs.drop 8) (fun z hz => H.out.2.2.2.1 z (List.mem_of_mem_drop hz)) 4 (by rw [List.length_drop, HL.out]; omega)
        have hlen : 8 + 4 ≤ zs.length := by rw [HL.out]; omega
        have HN := Lib.hid (show val ((zs.drop 8).take 4) = 2 → St zs 3 6 [v0, v1, val ((zs.drop 8).take 4)] from fun hc => by
          refine .inr (.inr (.inr (.inr (.inr (.inr (.inl ⟨rfl, rfl, _, _, _, rfl, ?_⟩))))))
          rw [HQ.out, stepN_ok _ _ _ _ hlen (by exact .inr (by rw [hc]; simp))]
          exact rd3_eq _ _ _ _ _)
        have HBD := Lib.hid (show val ((zs.drop 8).take 4) ∉ ([2] : List Int) → (rdAll zs).2.2.2.2 = some (2, (8 : Int)) from fun hc => by
          rw [HQ.out, stepN_bad _ _ _ _ hlen (by simpa using hc)]
          rfl)
        have HU := Lib.hid (ru32_ok (w.heap.size + 1) gb o n c 8 zs (by omega) hn wr HR.out.rd (H.out.ext HR.out.ext))
        generalize val ((zs.drop 8).take 4) = v at *
        clear hlen
        go_wp2_with fail
        refine HU.out.mono ?_
        rintro r w1 ⟨rfl, hr1, hu1⟩
        have hz1 := hu1.heap HR.out.z (by simp)
        have hx1 := hu1.ext HR.out.ext (by simp)
        have ho1 := HR.out.own.updT hu1 hr1 HR.out.rd (by decide)
        obtain ⟨v', w2, p1, p2, p3⟩ := moreU ho1 v (by simp) hx1.size
        have hx2 : Ext w w2 := grown_ext p3 (hx1.alloc _) (fun g hg => (ho1.lt hg).1)
        have hz2 := grown_heap p3 (((Ext.refl w1).alloc _).heap hz1) (fun e => ho1.notT hz1 (by decide) e.symm)
        have hr2 := grown_heap p3 (((Ext.refl w1).alloc _).heap hr1) (fun e => ho1.notT hr1 (by decide) e.symm)
        obtain ⟨y0', y1', y2', y3', y4', y5', z0', z1', z2', z3', z4', z5'⟩ := blk6 hz2
        have lz' := lt_of_heap hz2
        obtain ⟨c0, c1, c2, _, _, _⟩ := blk3 hr1
        have lr' := lt_of_heap hr1
        have HR2 := Lib.hid (show RR w w2 w.heap.size (w.heap.size + 1) (some ⟨gb, o, none⟩) n c (8 + 4) v' [v0, v1, v] from ⟨p2, hr2, hz2, by omega, by omega, hx2⟩)
        have P1 := Lib.hid p1
        clear hr1 hu1 hz1 hx1 ho1 p1 p2 p3 hx2 hz2 hr2 y0 y1 y2 y3 y4 y5 z0 z1 z2 z3 z4 z5
        by_cases hv : v = 2
        · subst hv
          go_wp2_with (at_builtin; refine wpList_append_run rfl (.tmp 27) (.tmp 29) _ rfl _ _ _ ?_ ?_ P1.out ?_)
          · rfl
          · rfl
          · go_roundw
            case rel => exact ⟨3, 6, _, rfl, rfl, by omega, HN.out (by simp), HR2.out.on ((Ext.refl _).alloc _)⟩
            case measure => simp [intOf]
        · have hd : (v != 2) = true := by simpa using hv
          have HF := Lib.hid (HBD.out (by simpa using hv))
          go_upto_region 19 with (at_builtin; refine wpList_append_run rfl (.tmp 27) (.tmp 29) _ rfl _ _ _ ?_ ?_ P1.out ?_)
          · rfl
          · rfl
          · have h3 := HR2.out.on ((Ext.refl w2).alloc (.cells #[.int .u32 0, .int .u32 0, .int .u32 2, .int .u32 536870913, .int .u32 1] 23))
            generalize w2.alloc (.cells #[.int .u32 0, .int .u32 0, .int .u32 2, .int .u32 536870913, .int .u32 1] 23) = w3 at *
            clear y0' y1' y2' y3' y4' y5' z0' z1' z2' z3' z4' z5' lz' lr' c0 c1 c2
            obtain ⟨y0, y1, y2, y3, y4, y5, z0, z1, z2, z3, z4, z5⟩ := blk6 h3.z
            have lz3 := lt_of_heap h3.z
            have HX3 := Lib.hid h3.ext
            clear h3
            go_wp2_with fail
            have u := ((((((Upd.refl [w.heap.size] w3).setCell ⟨w.heap.size, 0, none⟩ (.bool false) (by simp)).setCell ⟨w.heap.size, 1, none⟩ (.int .u32 0) (by simp)).setCell ⟨w.heap.size, 2, none⟩ (.int .u32 0) (by simp)).setCell ⟨w.heap.size, 3, none⟩ (.string ⟨#[]⟩) (by simp)).setCell ⟨w.heap.size, 4, none⟩ (.int .i64 2) (by simp)).setCell ⟨w.heap.size, 5, none⟩ (.int .i64 8) (by simp)
            exact bodyPost_ret (v := .agg #[.bool false, .int .u32 0, .int .u32 0, .string ⟨#[]⟩, .int .i64 2, .int .i64 8]) (by simp [results, Tryd.results11, go_sem, *]) rfl ⟨XIs.bad HF.out rfl, u.ext HX3.out (by simp)⟩
    · have hrr : RR w wr w.heap.size (w.heap.size + 1) a n c 12 u4 [v0, v1, v2] := HRR.out
      have hin3 : 12 ≤ n := hin
      obtain ⟨y0, y1, y2, y3, y4, y5, z0, z1, z2, z3, z4, z5⟩ := blk6 hrr.z
      have lz := lt_of_heap hrr.z
      have lr := lt_of_heap hrr.rd
      have HR := Lib.hid hrr
      have HQ := Lib.hid hq
      clear hrr HRR hin hq
      by_cases hsh : n < 16
      · have HF := Lib.hid (show (rdAll zs).2.2.2.2 = some (3, (12 : Int)) by
          rw [HQ.out, stepN_cut _ _ _ _ (by rw [HL.out]; omega)]; rfl)
        go_wp2_with fail
        refine (ru32_short (w.heap.size + 1) a n c 12 (by omega) (by omega) hn wr HR.out.rd).mono ?_
        rintro r w1 ⟨rfl, hr1, hu1⟩
        have hz1 := hu1.heap HR.out.z (by simp)
        obtain ⟨y0', y1', y2', y3', y4', y5', z0', z1', z2', z3', z4', z5'⟩ := blk6 hz1
        have lz' := lt_of_heap hz1
        have lr' := lt_of_heap hr1
        obtain ⟨c0, c1, c2, _, _, _⟩ := blk3 hr1
        have HX1 := Lib.hid (hu1.ext HR.out.ext (by simp))
        clear hr1 hu1 hz1 y0 y1 y2 y3 y4 y5 z0 z1 z2 z3 z4 z5
        go_wp2_with fail
        have u := ((((((Upd.refl [w.heap.size] w1).setCell ⟨w.heap.size, 0, none⟩ (.bool false) (by simp)).setCell ⟨w.heap.size, 1, none⟩ (.int .u32 0) (by simp)).setCell ⟨w.heap.size, 2, none⟩ (.int .u32 0) (by simp)).setCell ⟨w.heap.size, 3, none⟩ (.string ⟨#[]⟩) (by simp)).setCell ⟨w.heap.size, 4, none⟩ (.int .i64 3) (by simp)).setCell ⟨w.heap.size, 5, none⟩ (.int .i64 12) (by simp)
        exact bodyPost_ret (v := .agg #[.bool false, .int .u32 0, .int .u32 0, .string ⟨#[]⟩, .int .i64 3, .int .i64 12]) (by simp [results, Tryd.results11, go_sem, *]) rfl ⟨XIs.bad HF.out rfl, u.ext HX1.out (by simp)⟩
      · obtain ⟨gb, o, rfl⟩ : ∃ g o, a = some ⟨g, o, none⟩ := by
          rcases H.out.2.2.2.2 with h0 | ⟨g, o, h0, _⟩
          · omega
          · exact ⟨g, o, h0⟩
        have hvb := val_bd (zs := zs.drop 12) (fun z hz => H.out.2.2.2.1 z (List.mem_of_mem_drop hz)) 4 (by rw [List.length_drop, HL.out]; omega)
        have hlen : 12 + 4 ≤ zs.length := by rw [HL.out]; omega
        have HN := Lib.hid (show val ((zs.drop 12).take 4) = 536870913 → St zs 4 6 [v0, v1, v2, val ((zs.drop 12).take 4)] from fun hc => by
          refine .inr (.inr (.inr (.inr (.inr (.inr (.inr (.inl ⟨rfl, rfl, _, _, _, _, rfl, ?_⟩)))))))
          rw [HQ.out, stepN_ok _ _ _ _ hlen (by exact .inr (by rw [hc]; simp))]
          exact rd4_eq _ _ _ _ _)
        have HBD := Lib.hid (show val ((zs.drop 12).take 4) ∉ ([536870913] : List Int) → (rdAll zs).2.2.2.2 = some (2, (12 : Int)) from fun hc => by
          rw [HQ.out, stepN_bad _ _ _ _ hlen (by simpa using hc)]
          rfl)
        have HU := Lib.hid (ru32_ok (w.heap.size + 1) gb o n c 12 zs (by omega) hn wr HR.out.rd (H.out.ext HR.out.ext))
        generalize val ((zs.drop 12).take 4) = v at *
        clear hlen
        go_wp2_with fail
        refine HU.out.mono ?_
        rintro r w1 ⟨rfl, hr1, hu1⟩
        have hz1 := hu1.heap HR.out.z (by simp)
        have hx1 := hu1.ext HR.out.ext (by simp)
        have ho1 := HR.out.own.updT hu1 hr1 HR.out.rd (by decide)
        obtain ⟨v', w2, p1, p2, p3⟩ := moreU ho1 v (by simp) hx1.size
        have hx2 : Ext w w2 := grown_ext p3 (hx1.alloc _) (fun g hg => (ho1.lt hg).1)
        have hz2 := grown_heap p3 (((Ext.refl w1).alloc _).heap hz1) (fun e => ho1.notT hz1 (by decide) e.symm)
        have hr2 := grown_heap p3 (((Ext.refl w1).alloc _).heap hr1) (fun e => ho1.notT hr1 (by decide) e.symm)
        obtain ⟨y0', y1', y2', y3', y4', y5', z0', z1', z2', z3', z4', z5'⟩ := blk6 hz2
        have lz' := lt_of_heap hz2
        obtain ⟨c0, c1, c2, _, _, _⟩ := blk3 hr1
        have lr' := lt_of_heap hr1
        have HR2 := Lib.hid (show RR w w2 w.heap.size (w.heap.size + 1) (some ⟨gb, o, none⟩) n c (12 + 4) v' [v0, v1, v2, v] from ⟨p2, hr2, hz2, by omega, by omega, hx2⟩)
        have P1 := Lib.hid p1
        clear hr1 hu1 hz1 hx1 ho1 p1 p2 p3 hx2 hz2 hr2 y0 y1 y2 y3 y4 y5 z0 z1 z2 z3 z4 z5
        by_cases hv : v = 536870913
        · subst hv
          go_wp2_with (at_builtin; refine wpList_append_run rfl (.tmp 27) (.tmp 29) _ rfl _ _ _ ?_ ?_ P1.out ?_)
          · rfl
          · rfl
          · go_roundw
            case rel => exact ⟨4, 6, _, rfl, rfl, by omega, HN.out (by simp), HR2.out.on ((Ext.refl _).alloc _)⟩
            case measure => simp [intOf]
        · have hd : (v != 536870913) = true := by simpa using hv
          have HF := Lib.hid (HBD.out (by simpa using hv))
          go_upto_region 19 with (at_builtin; refine wpList_append_run rfl (.tmp 27) (.tmp 29) _ rfl _ _ _ ?_ ?_ P1.out ?_)
          · rfl
          · rfl
          · have h3 := HR2.out.on ((Ext.refl w2).alloc (.cells #[.int .u32 0, .int .u32 0, .int .u32 2, .int .u32 536870913, .int .u32 1] 23))
            generalize w2.alloc (.cells #[.int .u32 0, .int .u32 0, .int .u32 2, .int .u32 536870913, .int .u32 1] 23) = w3 at *
            clear y0' y1' y2' y3' y4' y5' z0' z1' z2' z3' z4' z5' lz' lr' c0 c1 c2
            obtain ⟨y0, y1, y2, y3, y4, y5, z0, z1, z2, z3, z4, z5⟩ := blk6 h3.z
            have lz3 := lt_of_heap h3.z
            have HX3 := Lib.hid h3.ext
            clear h3
            go_wp2_with fail
            have u := ((((((Upd.refl [w.heap.size] w3).setCell ⟨w.heap.size, 0, none⟩ (.bool false) (by simp)).setCell ⟨w.heap.size, 1, none⟩ (.int .u32 0) (by simp)).setCell ⟨w.heap.size, 2, none⟩ (.int .u32 0) (by simp)).setCell ⟨w.heap.size, 3, none⟩ (.string ⟨#[]⟩) (by simp)).setCell ⟨w.heap.size, 4, none⟩ (.int .i64 2) (by simp)).setCell ⟨w.heap.size, 5, none⟩ (.int .i64 12) (by simp)
            exact bodyPost_ret (v := .agg #[.bool false, .int .u32 0, .int .u32 0, .string ⟨#[]⟩, .int .i64 2, .int .i64 12]) (by simp [results, Tryd.results11, go_sem, *]) rfl ⟨XIs.bad HF.out rfl, u.ext HX3.out (by simp)⟩
    · have hrr : RR w wr w.heap.size (w.heap.size + 1) a n c 16 u4 [v0, v1, v2, v3] := HRR.out
      have hin4 : 16 ≤ n := hin
      obtain ⟨y0, y1, y2, y3, y4, y5, z0, z1, z2, z3, z4, z5⟩ := blk6 hrr.z
      have lz := lt_of_heap hrr.z
      have lr := lt_of_heap hrr.rd
      have HR := Lib.hid hrr
      have HQ := Lib.hid hq
      clear hrr HRR hin hq
      by_cases hsh : n < 20
      · have HF := Lib.hid (show (rdAll zs).2.2.2.2 = some (3, (16 : Int)) by
          rw [HQ.out, stepN_cut _ _ _ _ (by rw [HL.out]; omega)]; rfl)
        go_wp2_with fail
        refine (ru32_short (w.heap.size + 1) a n c 16 (by omega) (by omega) hn wr HR.out.rd).mono ?_
        rintro r w1 ⟨rfl, hr1, hu1⟩
        have hz1 := hu1.heap HR.out.z (by simp)
        obtain ⟨y0', y1', y2', y3', y4', y5', z0', z1', z2', z3', z4', z5'⟩ := blk6 hz1
        have lz' := lt_of_heap hz1
        have lr' := lt_of_heap hr1
        obtain ⟨c0, c1, c2, _, _, _⟩ := blk3 hr1
        have HX1 := Lib.hid (hu1.ext HR.out.ext (by simp))
        clear hr1 hu1 hz1 y0 y1 y2 y3 y4 y5 z0 z1 z2 z3 z4 z5
        go_wp2_with fail
        have u := ((((((Upd.refl [w.heap.size] w1).setCell ⟨w.heap.size, 0, none⟩ (.bool false) (by simp)).setCell ⟨w.heap.size, 1, none⟩ (.int .u32 0) (by simp)).setCell ⟨w.heap.size, 2, none⟩ (.int .u32 0) (by simp)).setCell ⟨w.heap.size, 3, none⟩ (.string ⟨#[]⟩) (by simp)).setCell ⟨w.heap.size, 4, none⟩ (.int .i64 3) (by simp)).setCell ⟨w.heap.size, 5, none⟩ (.int .i64 16) (by simp)
        exact bodyPost_ret (v := .agg #[.bool false, .int .u32 0, .int .u32 0, .string ⟨#[]⟩, .int .i64 3, .int .i64 16]) (by simp [results, Tryd.results11, go_sem, *]) rfl ⟨XIs.bad HF.out rfl, u.ext HX1.out (by simp)⟩
      · obtain ⟨gb, o, rfl⟩ : ∃ g o, a = some ⟨g, o, none⟩ := by
          rcases H.out.2.2.2.2 with h0 | ⟨g, o, h0, _⟩
          · omega
          · exact ⟨g, o, h0⟩
        have hvb := val_bd (zs := zs.drop 16) (fun z hz => H.out.2.2.2.1 z (List.mem_of_mem_drop hz)) 4 (by rw [List.length_drop, HL.out]; omega)
        have hlen : 16 + 4 ≤ zs.length := by rw [HL.out]; omega
        have HN := Lib.hid (show val ((zs.drop 16).take 4) = 1 → St zs 5 6 [v0, v1, v2, v3, val ((zs.drop 16).take 4)] from fun hc => by
          refine .inr (.inr (.inr (.inr (.inr (.inr (.inr (.inr (.inl ⟨rfl, rfl, _, _, _, _, _, rfl, ?_⟩))))))))
          rw [HQ.out, stepN_ok _ _ _ _ hlen (by exact .inr (by rw [hc]; simp))]
          try rfl)
        have HBD := Lib.hid (show val ((zs.drop 16).take 4) ∉ ([1] : List Int) → (rdAll zs).2.2.2.2 = some (2, (16 : Int)) from fun hc => by
          rw [HQ.out, stepN_bad _ _ _ _ hlen (by simpa using hc)]
          rfl)
        have HU := Lib.hid (ru32_ok (w.heap.size + 1) gb o n c 16 zs (by omega) hn wr HR.out.rd (H.out.ext HR.out.ext))
        generalize val ((zs.drop 16).take 4) = v at *
        clear hlen
        go_wp2_with fail
        refine HU.out.mono ?_
        rintro r w1 ⟨rfl, hr1, hu1⟩
        have hz1 := hu1.heap HR.out.z (by simp)
        have hx1 := hu1.ext HR.out.ext (by simp)
        have ho1 := HR.out.own.updT hu1 hr1 HR.out.rd (by decide)
        obtain ⟨v', w2, p1, p2, p3⟩ := moreU ho1 v (by simp) hx1.size
        have hx2 : Ext w w2 := grown_ext p3 (hx1.alloc _) (fun g hg => (ho1.lt hg).1)
        have hz2 := grown_heap p3 (((Ext.refl w1).alloc _).heap hz1) (fun e => ho1.notT hz1 (by decide) e.symm)
        have hr2 := grown_heap p3 (((Ext.refl w1).alloc _).heap hr1) (fun e => ho1.notT hr1 (by decide) e.symm)
        obtain ⟨y0', y1', y2', y3', y4', y5', z0', z1', z2', z3', z4', z5'⟩ := blk6 hz2
        have lz' := lt_of_heap hz2
        obtain ⟨c0, c1, c2, _, _, _⟩ := blk3 hr1
        have lr' := lt_of_heap hr1
        have HR2 := Lib.hid (show RR w w2 w.heap.size (w.heap.size + 1) (some ⟨gb, o, none⟩) n c (16 + 4) v' [v0, v1, v2, v3, v] from ⟨p2, hr2, hz2, by omega, by omega, hx2⟩)
        have P1 := Lib.hid p1
        clear hr1 hu1 hz1 hx1 ho1 p1 p2 p3 hx2 hz2 hr2 y0 y1 y2 y3 y4 y5 z0 z1 z2 z3 z4 z5
        by_cases hv : v = 1
        · subst hv
          go_wp2_with (at_builtin; refine wpList_append_run rfl (.tmp 27) (.tmp 29) _ rfl _ _ _ ?_ ?_ P1.out ?_)
          · rfl
          · rfl
          · go_roundw
            case rel => exact ⟨5, 6, _, rfl, rfl, by omega, HN.out (by simp), HR2.out.on ((Ext.refl _).alloc _)⟩
            case measure => simp [intOf]
        · have hd : (v != 1) = true := by simpa using hv
          have HF := Lib.hid (HBD.out (by simpa using hv))
          go_upto_region 19 with (at_builtin; refine wpList_append_run rfl (.tmp 27) (.tmp 29) _ rfl _ _ _ ?_ ?_ P1.out ?_)
          · rfl
          · rfl
          · have h3 := HR2.out.on ((Ext.refl w2).alloc (.cells #[.int .u32 0, .int .u32 0, .int .u32 2, .int .u32 536870913, .int .u32 1] 23))
            generalize w2.alloc (.cells #[.int .u32 0, .int .u32 0, .int .u32 2, .int .u32 536870913, .int .u32 1] 23) = w3 at *
            clear y0' y1' y2' y3' y4' y5' z0' z1' z2' z3' z4' z5' lz' lr' c0 c1 c2
            obtain ⟨y0, y1, y2, y3, y4, y5, z0, z1, z2, z3, z4, z5⟩ := blk6 h3.z
            have lz3 := lt_of_heap h3.z
            have HX3 := Lib.hid h3.ext
            clear h3
            go_wp2_with fail
            have u := ((((((Upd.refl [w.heap.size] w3).setCell ⟨w.heap.size, 0, none⟩ (.bool false) (by simp)).setCell ⟨w.heap.size, 1, none⟩ (.int .u32 0) (by simp)).setCell ⟨w.heap.size, 2, none⟩ (.int .u32 0) (by simp)).setCell ⟨w.heap.size, 3, none⟩ (.string ⟨#[]⟩) (by simp)).setCell ⟨w.heap.size, 4, none⟩ (.int .i64 2) (by simp)).setCell ⟨w.heap.size, 5, none⟩ (.int .i64 16) (by simp)
            exact bodyPost_ret (v := .agg #[.bool false, .int .u32 0, .int .u32 0, .string ⟨#[]⟩, .int .i64 2, .int .i64 16]) (by simp [results, Tryd.results11, go_sem, *]) rfl ⟨XIs.bad HF.out rfl, u.ext HX3.out (by simp)⟩
    · have hrr : RR w wr w.heap.size (w.heap.size + 1) a n c 20 u4 [v0, v1, v2, v3, v4] := HRR.out
      have hin5 : 20 ≤ n := hin
      obtain ⟨y0, y1, y2, y3, y4, y5, z0, z1, z2, z3, z4, z5⟩ := blk6 hrr.z
      have lz := lt_of_heap hrr.z
      have lr := lt_of_heap hrr.rd
      have HR := Lib.hid hrr
      have HQ := Lib.hid hq
      clear hrr HRR hin hq
      by_cases hsh : n < 24
      · have HF := Lib.hid (show (rdAll zs).2.2.2.2 = some (3, (20 : Int)) by
          rw [HQ.out, stepN_cut _ _ _ _ (by rw [HL.out]; omega)]; rfl)
        go_wp2_with fail
        refine (ru32_short (w.heap.size + 1) a n c 20 (by omega) (by omega) hn wr HR.out.rd).mono ?_
        rintro r w1 ⟨rfl, hr1, hu1⟩
        have hz1 := hu1.heap HR.out.z (by simp)
        obtain ⟨y0', y1', y2', y3', y4', y5', z0', z1', z2', z3', z4', z5'⟩ := blk6 hz1
        have lz' := lt_of_heap hz1
        have lr' := lt_of_heap hr1
        obtain ⟨c0, c1, c2, _, _, _⟩ := blk3 hr1
        have HX1 := Lib.hid (hu1.ext HR.out.ext (by simp))
        clear hr1 hu1 hz1 y0 y1 y2 y3 y4 y5 z0 z1 z2 z3 z4 z5
        go_wp2_with fail
        have u := ((((((Upd.refl [w.heap.size] w1).setCell ⟨w.heap.size, 0, none⟩ (.bool false) (by simp)).setCell ⟨w.heap.size, 1, none⟩ (.int .u32 0) (by simp)).setCell ⟨w.heap.size, 2, none⟩ (.int .u32 0) (by simp)).setCell ⟨w.heap.size, 3, none⟩ (.string ⟨#[]⟩) (by simp)).setCell ⟨w.heap.size, 4, none⟩ (.int .i64 3) (by simp)).setCell ⟨w.heap.size, 5, none⟩ (.int .i64 20) (by simp)
        exact bodyPost_ret (v := .agg #[.bool false, .int .u32 0, .int .u32 0, .string ⟨#[]⟩, .int .i64 3, .int .i64 20]) (by simp [results, Tryd.results11, go_sem, *]) rfl ⟨XIs.bad HF.out rfl, u.ext HX1.out (by simp)⟩
      · obtain ⟨gb, o, rfl⟩ : ∃ g o, a = some ⟨g, o, none⟩ := by
          rcases H.out.2.2.2.2 with h0 | ⟨g, o, h0, _⟩
          · omega
          · exact ⟨g, o, h0⟩
        have hvb := val_bd (zs := zs.drop 20) (fun z hz => H.out.2.2.2.1 z (List.mem_of_mem_drop hz)) 4 (by rw [List.length_drop, HL.out]; omega)
        have hlen : 20 + 4 ≤ zs.length := by rw [HL.out]; omega
        have HN := Lib.hid (show True → St zs 6 6 [v0, v1, v2, v3, v4, val ((zs.drop 20).take 4)] from fun hc => by
          refine .inr (.inr (.inr (.inr (.inr (.inr (.inr (.inr (.inr ⟨rfl, rfl, _, _, _, _, _, _, rfl, ?_⟩))))))))
          rw [HQ.out, stepN_ok _ _ _ _ hlen (by exact .inl rfl)]
          try rfl)
        have HU := Lib.hid (ru32_ok (w.heap.size + 1) gb o n c 20 zs (by omega) hn wr HR.out.rd (H.out.ext HR.out.ext))
        generalize val ((zs.drop 20).take 4) = v at *
        clear hlen
        go_wp2_with fail
        refine HU.out.mono ?_
        rintro r w1 ⟨rfl, hr1, hu1⟩
        have hz1 := hu1.heap HR.out.z (by simp)
        have hx1 := hu1.ext HR.out.ext (by simp)
        have ho1 := HR.out.own.updT hu1 hr1 HR.out.rd (by decide)
        obtain ⟨v', w2, p1, p2, p3⟩ := moreU ho1 v (by simp) hx1.size
        have hx2 : Ext w w2 := grown_ext p3 (hx1.alloc _) (fun g hg => (ho1.lt hg).1)
        have hz2 := grown_heap p3 (((Ext.refl w1).alloc _).heap hz1) (fun e => ho1.notT hz1 (by decide) e.symm)
        have hr2 := grown_heap p3 (((Ext.refl w1).alloc _).heap hr1) (fun e => ho1.notT hr1 (by decide) e.symm)
        obtain ⟨y0', y1', y2', y3', y4', y5', z0', z1', z2', z3', z4', z5'⟩ := blk6 hz2
        have lz' := lt_of_heap hz2
        obtain ⟨c0, c1, c2, _, _, _⟩ := blk3 hr1
        have lr' := lt_of_heap hr1
        have HR2 := Lib.hid (show RR w w2 w.heap.size (w.heap.size + 1) (some ⟨gb, o, none⟩) n c (20 + 4) v' [v0, v1, v2, v3, v4, v] from ⟨p2, hr2, hz2, by omega, by omega, hx2⟩)
        have P1 := Lib.hid p1
        clear hr1 hu1 hz1 hx1 ho1 p1 p2 p3 hx2 hz2 hr2 y0 y1 y2 y3 y4 y5 z0 z1 z2 z3 z4 z5
        go_wp2_with (at_builtin; refine wpList_append_run rfl (.tmp 27) (.tmp 29) _ rfl _ _ _ ?_ ?_ P1.out ?_)
        · rfl
        · rfl
        · go_roundw
          case rel => exact ⟨6, 6, _, rfl, rfl, by omega, HN.out trivial, HR2.out⟩
          case measure => simp [intOf]
    · have hrr : RR w wr w.heap.size (w.heap.size + 1) a n c 24 u4 [v0, v1, v2, v3, v4, v5] := HRR.out
      have hin6 : 24 ≤ n := hin
      obtain ⟨y0, y1, y2, y3, y4, y5, z0, z1, z2, z3, z4, z5⟩ := blk6 hrr.z
      have lz := lt_of_heap hrr.z
      have lr := lt_of_heap hrr.rd
      have HR := Lib.hid hrr
      have HQ := Lib.hid hq
      clear hrr HRR hin hq
      obtain ⟨gb, o, rfl⟩ : ∃ g o, a = some ⟨g, o, none⟩ := by
        rcases H.out.2.2.2.2 with h0 | ⟨g, o, h0, _⟩
        · omega
        · exact ⟨g, o, h0⟩
      obtain ⟨gl, cl, hv4, _, lg, hcl1, hcl2, q0, _⟩ := HR.out.own.cell (i := 0) (by simp [uv])
      obtain ⟨gl2, cl2, hv42, _, _, _, _, q1, _⟩ := HR.out.own.cell (i := 5) (by simp [uv])
      rw [hv4] at hv42
      injection hv42 with e1 e2 e3
      injection e1 with e1
      injection e1 with e1 _ _
      subst e1
      have ql : (uv [v0, v1, v2, v3, v4, v5]).length = 6 := rfl
      rw [ql] at hv4 hcl1
      have qq0 : wr.cell? ⟨gl, 0, none⟩ = some (.int .u32 v0) := q0
      have qq1 : wr.cell? ⟨gl, 5, none⟩ = some (.int .u32 v5) := q1
      clear q0 q1
      subst hv4
      unfold maxLen at hcl2
      clear e2 e3 ql
      by_cases hck : c = 24
      · subst hck
        have hS := (((H.out.ext HR.out.ext.drew).cut (j := 24) (by omega) (some ⟨gb, o, none⟩) (fun h => by omega))).str
        rw [show n - 24 = 0 by omega, Nat.sub_self] at hS
        go_wp2_with fail
        go_region
        go_wp2_with fail
        have u := (((((((Upd.refl [w.heap.size] wr).setCell ⟨w.heap.size, 0, none⟩ (.bool false) (by simp)).setCell ⟨w.heap.size, 1, none⟩ (.int .u32 v0) (by simp)).setCell ⟨w.heap.size, 2, none⟩ (.int .u32 v5) (by simp)).setCell ⟨w.heap.size, 3, none⟩ (.string (strOfNums (zs.drop 24))) (by simp)).setCell ⟨w.heap.size, 4, none⟩ (.int .i64 0) (by simp)).setCell ⟨w.heap.size, 5, none⟩ (.int .i64 (-1)) (by simp)).drew
        exact bodyPost_ret (v := .agg #[.bool false, .int .u32 v0, .int .u32 v5, .string (strOfNums (zs.drop 24)), .int .i64 0, .int .i64 (-1)]) (by simp [results, Tryd.results11, go_sem, *]) rfl ⟨by rw [HQ.out]; rfl, u.ext HR.out.ext (by simp)⟩
      · have hS := (((H.out.ext HR.out.ext.drew).cut (j := 24) (by omega) (some ⟨gb, o + 24, none⟩) (fun _ => rfl))).str
        go_wp2_with fail
        go_region
        go_wp2_with fail
        have u := (((((((Upd.refl [w.heap.size] wr).setCell ⟨w.heap.size, 0, none⟩ (.bool false) (by simp)).setCell ⟨w.heap.size, 1, none⟩ (.int .u32 v0) (by simp)).setCell ⟨w.heap.size, 2, none⟩ (.int .u32 v5) (by simp)).setCell ⟨w.heap.size, 3, none⟩ (.string (strOfNums (zs.drop 24))) (by simp)).setCell ⟨w.heap.size, 4, none⟩ (.int .i64 0) (by simp)).setCell ⟨w.heap.size, 5, none⟩ (.int .i64 (-1)) (by simp)).drew
        exact bodyPost_ret (v := .agg #[.bool false, .int .u32 v0, .int .u32 v5, .string (strOfNums (zs.drop 24)), .int .i64 0, .int .i64 (-1)]) (by simp [results, Tryd.results11, go_sem, *]) rfl ⟨by rw [HQ.out]; rfl, u.ext HR.out.ext (by simp)⟩
end Go.Proofs.YtcnbgcoklbmdaaaDoor
