/- The message of bytes: rpc.Read. -/
import Derived.Test.YtcnbgcoklbmdaaaDoorRp4
namespace Go.Proofs.YtcnbgcoklbmdaaaDoor
open Go.ChangeShapes Go.WideShapes Go.ChangeAt Go.RowKit

theorem GdW.upd1 {w w' : World} {gr gx gm : Nat} {zs : List Int} {k : Nat} {f : Option (Int × Int)} {fv : Value} (h : GdW w gr gx zs k f fv) {cs : Array Value} {t : TypeId} (hm : w.heap[gm]? = some (.cells cs t (0, 0))) (ht : t ≠ 49) (h8 : ∀ (i : Nat) (z : Int), cs[i]? ≠ some (.int .u8 z))
    (hu : Upd [gm] w w') (h1 : gm ≠ gr) (h2 : gm ≠ gx) : GdW w' gr gx zs k f fv := by
  obtain ⟨e, hr, he⟩ := h.rd
  refine ⟨hu.heap h.blk (by simpa using fun e => h1 e.symm), h.ne, ⟨e, hr.upd hu (by simpa using fun e => h2 e.symm) (fun b i z hb => ?_), he⟩, ?_⟩
  · simp only [List.mem_singleton]
    intro e
    subst e
    rw [cell_of hm] at hb
    exact h8 i z hb
  · cases f with
    | none => exact h.fault
    | some p =>
      obtain ⟨n, p⟩ := p
      obtain ⟨gf, g1, g2, g3, g4⟩ := h.fault
      refine ⟨gf, g1, hu.heap g2 ?_, g3, g4⟩
      simp only [List.mem_singleton]
      intro e
      subst e
      rw [hm] at g2
      injection g2 with g2
      injection g2 with _ g2 _
      exact ht g2
/-- What is read: a reply?, the two numbers, how many bytes, what is wrong. -/
def rdAll (zs : List Int) : Bool × Int × Int × Nat × Option (Int × Int) :=
  let s1 := stepN [] zs 0 none
  let s2 := stepN [0, 1] s1.2.1 s1.2.2.1 s1.2.2.2
  if s2.1 = 1 then
    let s3 := stepN [0] s2.2.1 s2.2.2.1 s2.2.2.2
    let s4 := stepN [] s3.2.1 s3.2.2.1 s3.2.2.2
    (true, s1.1, s4.1, s4.2.2.1, s4.2.2.2)
  else
    let s3 := stepN [2] s2.2.1 s2.2.2.1 s2.2.2.2
    let s4 := stepN [536870913] s3.2.1 s3.2.2.1 s3.2.2.2
    let s5 := stepN [1] s4.2.1 s4.2.2.1 s4.2.2.2
    let s6 := stepN [] s5.2.1 s5.2.2.1 s5.2.2.2
    (false, s1.1, s6.1, s6.2.2.1, s6.2.2.2)
def rd2 (v1 : Int) (s2 : Int × List Int × Nat × Option (Int × Int)) : Bool × Int × Int × Nat × Option (Int × Int) :=
  if s2.1 = 1 then
    let s3 := stepN [0] s2.2.1 s2.2.2.1 s2.2.2.2
    let s4 := stepN [] s3.2.1 s3.2.2.1 s3.2.2.2
    (true, v1, s4.1, s4.2.2.1, s4.2.2.2)
  else
    let s3 := stepN [2] s2.2.1 s2.2.2.1 s2.2.2.2
    let s4 := stepN [536870913] s3.2.1 s3.2.2.1 s3.2.2.2
    let s5 := stepN [1] s4.2.1 s4.2.2.1 s4.2.2.2
    let s6 := stepN [] s5.2.1 s5.2.2.1 s5.2.2.2
    (false, v1, s6.1, s6.2.2.1, s6.2.2.2)
theorem rdAll_eq (zs : List Int) : rdAll zs = rd2 (stepN [] zs 0 none).1 (stepN [0, 1] (stepN [] zs 0 none).2.1 (stepN [] zs 0 none).2.2.1 (stepN [] zs 0 none).2.2.2) := rfl
theorem rd2_yes (v1 : Int) (z2 : List Int) (k2 : Nat) (f2 : Option (Int × Int)) : rd2 v1 (1, z2, k2, f2) = (true, v1, (stepN [] (stepN [0] z2 k2 f2).2.1 (stepN [0] z2 k2 f2).2.2.1 (stepN [0] z2 k2 f2).2.2.2).1, (stepN [] (stepN [0] z2 k2 f2).2.1 (stepN [0] z2 k2 f2).2.2.1 (stepN [0] z2 k2 f2).2.2.2).2.2.1, (stepN [] (stepN [0] z2 k2 f2).2.1 (stepN [0] z2 k2 f2).2.2.1 (stepN [0] z2 k2 f2).2.2.2).2.2.2) := rfl
def rd3 (v1 : Int) (s3 : Int × List Int × Nat × Option (Int × Int)) : Bool × Int × Int × Nat × Option (Int × Int) :=
  let s4 := stepN [536870913] s3.2.1 s3.2.2.1 s3.2.2.2
  let s5 := stepN [1] s4.2.1 s4.2.2.1 s4.2.2.2
  let s6 := stepN [] s5.2.1 s5.2.2.1 s5.2.2.2
  (false, v1, s6.1, s6.2.2.1, s6.2.2.2)
theorem rd2_no (v1 v2 : Int) (h : v2 ≠ 1) (z2 : List Int) (k2 : Nat) (f2 : Option (Int × Int)) : rd2 v1 (v2, z2, k2, f2) = rd3 v1 (stepN [2] z2 k2 f2) := by unfold rd2; rw [if_neg h]; rfl
def rd4 (v1 : Int) (s4 : Int × List Int × Nat × Option (Int × Int)) : Bool × Int × Int × Nat × Option (Int × Int) :=
  let s5 := stepN [1] s4.2.1 s4.2.2.1 s4.2.2.2
  let s6 := stepN [] s5.2.1 s5.2.2.1 s5.2.2.2
  (false, v1, s6.1, s6.2.2.1, s6.2.2.2)
theorem rd3_eq (v1 v3 : Int) (z : List Int) (k : Nat) (f : Option (Int × Int)) : rd3 v1 (v3, z, k, f) = rd4 v1 (stepN [536870913] z k f) := rfl
def rd5 (v1 : Int) (s5 : Int × List Int × Nat × Option (Int × Int)) : Bool × Int × Int × Nat × Option (Int × Int) :=
  let s6 := stepN [] s5.2.1 s5.2.2.1 s5.2.2.2
  (false, v1, s6.1, s6.2.2.1, s6.2.2.2)
theorem rd4_eq (v1 v3 : Int) (z : List Int) (k : Nat) (f : Option (Int × Int)) : rd4 v1 (v3, z, k, f) = rd5 v1 (stepN [1] z k f) := rfl
theorem rd5_eq (v1 v3 : Int) (z : List Int) (k : Nat) (f : Option (Int × Int)) : rd5 v1 (v3, z, k, f) = (false, v1, (stepN [] z k f).1, (stepN [] z k f).2.2.1, (stepN [] z k f).2.2.2) := rfl
def Inv (zs0 zs : List Int) (k : Nat) (f : Option (Int × Int)) : Prop := f = none → zs = zs0.drop k ∧ k ≤ zs0.length
theorem stepN_inv {zs0 l zs : List Int} {k : Nat} {f : Option (Int × Int)} (h : Inv zs0 zs k f) : Inv zs0 (stepN l zs k f).2.1 (stepN l zs k f).2.2.1 (stepN l zs k f).2.2.2 ∧ ((stepN l zs k f).2.2.2 = none → f = none ∧ (stepN l zs k f).2.2.1 = k + 4) := by
  unfold stepN
  split
  · exact ⟨(fun e => by cases e), (fun e => by cases e)⟩
  · split
    · exact ⟨(fun e => by cases e), (fun e => by cases e)⟩
    · next hz =>
      obtain ⟨h1, h2⟩ := h rfl
      split
      · refine ⟨fun _ => ⟨by rw [h1, List.drop_drop], ?_⟩, fun _ => ⟨rfl, rfl⟩⟩
        rw [h1, List.length_drop] at hz
        show k + 4 ≤ _
        omega
      · exact ⟨(fun e => by cases e), (fun e => by cases e)⟩
/-- What Read answers. -/
def ReadIs (w w' : World) (zs : List Int) (r : Ending) : Bool × Int × Int × Nat × Option (Int × Int) → Prop
  | (b, x, p, k, none) => ∃ v, r = .returned (.tuple #[.agg #[.bool b, .int .u32 x, .int .u32 p, v], .nilIface]) ∧ Owns w' w.heap.size 5 v (bv (zs.drop k))
  | (_, _, _, _, some (n, p)) => ∃ gf, r = .returned (.tuple #[.agg #[.bool false, .int .u32 0, .int .u32 0, .slice none 0 0], .iface 47 (.pointer (some ⟨gf, 0, none⟩))]) ∧ w'.heap[gf]? = some (.cells #[.int .i64 n, .int .i64 p] 49 (0, 0))
theorem one_row (w : World) (cs : List Int) (hc : cs.length ≤ 100) (hw : ∀ z ∈ cs, (Lit.int .u32 z).wf = true) : IsRow .u32 (w.alloc (.cells (cs.map (Value.int .u32)).toArray 23)) (some ⟨w.heap.size, 0, none⟩) cs.length cs.length cs := by
  refine ⟨rfl, by omega, by unfold maxLen; omega, hw, .inr ⟨w.heap.size, 0, rfl, fun i hi => ?_⟩⟩
  rw [cell_of (heap_alloc_new w _)]
  simp [List.getD, List.getElem?_eq_getElem hi]

/-- What holds while a message is read. -/
structure RS (w W : World) (g2 gm gr gx : Nat) (zs : List Int) (k : Nat) (f : Option (Int × Int)) (b : Bool) (x p : Int) : Prop where
  gd : ∃ fv, GdW W gr gx zs k f fv
  m : W.heap[gm]? = some (.cells #[.bool b, .int .u32 x, .int .u32 p, .slice none 0 0] 32 (0, 0))
  z : W.heap[g2]? = some (.cells #[.bool false, .int .u32 0, .int .u32 0, .slice none 0 0] 32 (0, 0))
  d : g2 ≠ gm ∧ g2 ≠ gr ∧ g2 ≠ gx ∧ gm ≠ gr ∧ gm ≠ gx
  lo : w.heap.size ≤ g2 ∧ w.heap.size ≤ gm ∧ w.heap.size ≤ gr ∧ w.heap.size ≤ gx
  ext : Ext w W
section
variable {w W W' : World} {g2 gm gr gx : Nat} {zs : List Int} {k : Nat} {f : Option (Int × Int)} {b : Bool} {x p : Int}
theorem RS.on (h : RS w W g2 gm gr gx zs k f b x p) (hx : Ext W W') : RS w W' g2 gm gr gx zs k f b x p :=
  ⟨h.gd.imp fun _ hg => hg.ext hx, hx.heap h.m, hx.heap h.z, h.d, h.lo, h.ext.trans hx⟩
theorem RS.set (h : RS w W g2 gm gr gx zs k f b x p) (i : Nat) (v : Value) (b' : Bool) (x' p' : Int) (he : (#[Value.bool b, .int .u32 x, .int .u32 p, .slice none 0 0].setIfInBounds i v) = #[.bool b', .int .u32 x', .int .u32 p', .slice none 0 0]) :
    RS w (W.setCell ⟨gm, i, none⟩ v) g2 gm gr gx zs k f b' x' p' := by
  have u : Upd [gm] W (W.setCell ⟨gm, i, none⟩ v) := (Upd.refl _ _).setCell _ _ (by simp)
  have hm := heap_setCell_same W gm i _ _ v h.m
  rw [he] at hm
  refine ⟨h.gd.imp fun _ hg => hg.upd1 h.m (by decide) ?_ u h.d.2.2.2.1 h.d.2.2.2.2, hm, u.heap h.z (by simpa using h.d.1), h.d, h.lo, u.ext h.ext (by simpa using h.lo.2.1)⟩
  intro i z
  match i with
  | 0 => simp
  | 1 => simp
  | 2 => simp
  | 3 => simp
  | i + 4 => simp
theorem RS.next (h : RS w W g2 gm gr gx zs k f b x p) (hk : k ≤ 1000) (a : Option Addr) (n c : Nat) (l : List Int) (hn : n ≤ 100) (hl : IsRow .u32 W a n c l) (hla : ∀ g o, a = some ⟨g, o, none⟩ → g ≠ gx ∧ g ≠ gr) :
    Calls Tryd.prog 20 #[.pointer (some ⟨gr, 0, none⟩), .slice a n c] W fun r W' => r = .returned (.int .u32 (stepN l zs k f).1) ∧ RS w W' g2 gm gr gx (stepN l zs k f).2.1 (stepN l zs k f).2.2.1 (stepN l zs k f).2.2.2 b x p := by
  obtain ⟨fv, hg⟩ := h.gd
  refine (next_any gr gx zs k hk f fv a n c l hn W hg hl hla).mono ?_
  rintro r W' ⟨rfl, hg', hu⟩
  obtain ⟨d1, d2, d3, d4, d5⟩ := h.d
  exact ⟨rfl, hg', hu.heap h.m (by simp; exact ⟨d4, d5⟩), hu.heap h.z (by simp; exact ⟨d2, d3⟩), h.d, h.lo, hu.ext h.ext (by simp; exact ⟨h.lo.2.2.1, h.lo.2.2.2⟩)⟩
/-- The next number, any. -/
theorem RS.next0 (h : RS w W g2 gm gr gx zs k f b x p) (hk : k ≤ 1000) :
    Calls Tryd.prog 20 #[.pointer (some ⟨gr, 0, none⟩), .slice none 0 0] W fun r W' => r = .returned (.int .u32 (stepN [] zs k f).1) ∧ RS w W' g2 gm gr gx (stepN [] zs k f).2.1 (stepN [] zs k f).2.2.1 (stepN [] zs k f).2.2.2 b x p :=
  h.next hk none 0 0 [] (by omega) ⟨rfl, by omega, by unfold maxLen; omega, by simp, .inl rfl⟩ (fun _ _ e => by cases e)
/-- The next number, of a list in a new block. -/
theorem RS.next1 (h : RS w W g2 gm gr gx zs k f b x p) (hk : k ≤ 1000) (cs : List Int) (hc : cs.length ≤ 100) (hw : ∀ z ∈ cs, (Lit.int .u32 z).wf = true) :
    Calls Tryd.prog 20 #[.pointer (some ⟨gr, 0, none⟩), .slice (some ⟨W.heap.size, 0, none⟩) cs.length cs.length] (W.alloc (.cells (cs.map (Value.int .u32)).toArray 23)) fun r W' => r = .returned (.int .u32 (stepN cs zs k f).1) ∧ RS w W' g2 gm gr gx (stepN cs zs k f).2.1 (stepN cs zs k f).2.2.1 (stepN cs zs k f).2.2.2 b x p := by
  obtain ⟨fv, hg⟩ := h.gd
  have l1 := lt_of_heap hg.blk
  obtain ⟨e, hr, _⟩ := hg.rd
  have l2 := hr.lt
  exact (h.on ((Ext.refl W).alloc _)).next hk _ _ _ cs hc (one_row W cs hc hw) (fun g o e => by injection e with e; injection e with e _ _; omega)
theorem RS.nextA (h : RS w W g2 gm gr gx zs k f b x p) (hk : k ≤ 1000) (y : Int) (hy : 0 ≤ y ∧ y ≤ 4294967295) (q : Nat) (hq : q = W.heap.size) :
    Calls Tryd.prog 20 #[.pointer (some ⟨gr, 0, none⟩), .slice (some ⟨q, 0, none⟩) 1 1] (W.alloc (.cells #[.int .u32 y] 23)) fun r W' => r = .returned (.int .u32 (stepN [y] zs k f).1) ∧ RS w W' g2 gm gr gx (stepN [y] zs k f).2.1 (stepN [y] zs k f).2.2.1 (stepN [y] zs k f).2.2.2 b x p := by
  subst hq
  exact h.next1 hk [y] (by simp) (by simp [Lit.wf, IntKind.min, IntKind.max, IntKind.signed, IntKind.bits]; omega)
theorem RS.nextB (h : RS w W g2 gm gr gx zs k f b x p) (hk : k ≤ 1000) (q : Nat) (hq : q = W.heap.size) :
    Calls Tryd.prog 20 #[.pointer (some ⟨gr, 0, none⟩), .slice (some ⟨q, 0, none⟩) 2 2] (W.alloc (.cells #[.int .u32 0, .int .u32 1] 23)) fun r W' => r = .returned (.int .u32 (stepN [0, 1] zs k f).1) ∧ RS w W' g2 gm gr gx (stepN [0, 1] zs k f).2.1 (stepN [0, 1] zs k f).2.2.1 (stepN [0, 1] zs k f).2.2.2 b x p := by
  subst hq
  exact h.next1 hk [0, 1] (by simp) (by simp [Lit.wf, IntKind.min, IntKind.max, IntKind.signed, IntKind.bits])
theorem RS.mcells (h : RS w W g2 gm gr gx zs k f b x p) : gm < W.heap.size ∧ W.cell? ⟨gm, 0, none⟩ = some (.bool b) ∧ W.cell? ⟨gm, 1, none⟩ = some (.int .u32 x) ∧ W.cell? ⟨gm, 2, none⟩ = some (.int .u32 p) ∧ W.cell? ⟨gm, 3, none⟩ = some (.slice none 0 0) ∧ W.frozen? ⟨gm, 0, none⟩ = false ∧ W.frozen? ⟨gm, 1, none⟩ = false ∧ W.frozen? ⟨gm, 2, none⟩ = false ∧ W.frozen? ⟨gm, 3, none⟩ = false :=
  ⟨lt_of_heap h.m, blk4 h.m⟩
theorem size_setCell (w : World) (a : Addr) (v : Value) : (w.setCell a v).heap.size = w.heap.size := by simp [World.setCell]
end

set_option maxRecDepth 100000 in
set_option maxHeartbeats 4000000 in
theorem readM_any (a : Option Addr) (n c : Nat) (zs : List Int) (hn : n ≤ 100000) (w : World) (h : IsRow .u8 w a n c zs) (ha : Plain a c) :
    Calls Tryd.prog 10 #[.slice a n c] w fun r w' => ReadIs w w' zs r (rdAll zs) ∧ Ext w w' := by
  have HR := Lib.hid (fun W (hW : Ext w W) => read_any a n c zs (by omega) W (h.ext hW) ha.nil0)
  have H := Lib.hid h
  have HA := Lib.hid ha
  have hlc := h.2.1
  have hcm := h.2.2.1
  unfold maxLen at hcm
  clear h ha
  go_enter Tryd.func10, Tryd.ntmps10
  go_wp2_with fail
  refine (HR.out _ ((Ext.refl w).alloc _)).mono ?_
  rintro r w1 ⟨gx, rfl, hrd, hgx, hx1⟩
  have hz1 := hx1.heap (heap_alloc_new w _)
  have hgx1 := hrd.lt
  have hx01 : Ext w w1 := ((Ext.refl w).alloc _).trans hx1
  have hs1 : w.heap.size < w1.heap.size := lt_of_heap hz1
  simp only [World.size_alloc] at hgx
  have hrs : RS w ((w1.alloc (.cells #[.pointer (some ⟨gx, 0, none⟩), .int .i64 0, .pointer none] 61)).alloc (.cells #[.bool false, .int .u32 0, .int .u32 0, .slice none 0 0] 32)) w.heap.size (w1.heap.size + 1) w1.heap.size gx zs 0 none false 0 0 :=
    ⟨⟨_, ⟨heap_alloc2_old w1 _ _, by omega, ⟨0, hrd.ext (((Ext.refl w1).alloc _).alloc _), fun _ => rfl⟩, rfl⟩⟩, heap_alloc2_new w1 _ _, (((Ext.refl w1).alloc _).alloc _).heap hz1, by omega, by omega, hx01.trans (((Ext.refl w1).alloc _).alloc _)⟩
  have HRS := Lib.hid hrs
  clear hrd hx1 hz1 hx01 hrs
  have HP := Lib.hid (rdAll_eq zs)
  have hi0 : Inv zs zs 0 none := fun _ => ⟨by simp, by omega⟩
  have hi1 := stepN_inv (l := []) hi0
  have hb1 := stepN_bd (l := []) (k := 0) (f := none) H.out.2.2.2.1
  go_wp2_with fail
  refine (HRS.out.next0 (by omega)).mono ?_
  rintro r w2 ⟨rfl, hrs2⟩
  generalize stepN [] zs 0 none = s1 at *
  obtain ⟨v1, z1, k1, f1⟩ := s1
  simp only at *
  obtain ⟨lm, m0, m1, m2, m3, n0, n1, n2, n3⟩ := hrs2.mcells
  have HRS2 := Lib.hid (hrs2.set 1 (.int .u32 v1) false v1 0 rfl)
  have HI1 := Lib.hid hi1
  have HB1 := Lib.hid hb1
  have hi2 := stepN_inv (l := [0, 1]) hi1.1
  have hb2 := stepN_bd (l := [0, 1]) (k := k1) (f := f1) hb1.2.2.1
  have hk1 := hb1.2.2.2
  clear hi0 hi1 hb1 hrs2 HRS
  go_wp2_with fail
  refine (HRS2.out.nextB (by omega) _ (size_setCell _ _ _).symm).mono ?_
  rintro r w3 ⟨rfl, hrs3⟩
  generalize stepN [0, 1] z1 k1 f1 = s2 at *
  obtain ⟨v2, z2, k2, f2⟩ := s2
  simp only at hi2 hb2 hrs3
  obtain ⟨lm2, m02, m12, m22, m32, n02, n12, n22, n32⟩ := hrs3.mcells
  by_cases hv2 : v2 = 1
  · subst hv2
    have HRS3 := Lib.hid (hrs3.set 0 (.bool true) true v1 0 rfl)
    have hi3 := stepN_inv (l := [0]) hi2.1
    have hb3 := stepN_bd (l := [0]) (k := k2) (f := f2) hb2.2.2.1
    have hk2 := hb2.2.2.2
    have HI2 := Lib.hid hi2
    have HB2 := Lib.hid hb2
    clear hi2 hb2
    rw [rd2_yes] at HP
    clear hrs3 HRS2
    go_wp2_with fail
    refine (HRS3.out.nextA (by omega) 0 (by omega) _ (size_setCell _ _ _).symm).mono ?_
    rintro r w4 ⟨rfl, hrs4⟩
    generalize stepN [0] z2 k2 f2 = s3 at *
    obtain ⟨v3, z3, k3, f3⟩ := s3
    simp only at hi3 hb3 hrs4
    obtain ⟨lm3, m03, m13, m23, m33, n03, n13, n23, n33⟩ := hrs4.mcells
    have hi4 := stepN_inv (l := []) hi3.1
    have hb4 := stepN_bd (l := []) (k := k3) (f := f3) hb3.2.2.1
    have hk3 := hb3.2.2.2
    have HI3 := Lib.hid hi3
    have HB3 := Lib.hid hb3
    clear hi3 hb3
    have HRS4 := Lib.hid hrs4
    clear hrs4 HRS3
    go_wp2_with fail
    refine (HRS4.out.next0 (by omega)).mono ?_
    rintro r w5 ⟨rfl, hrs5⟩
    generalize stepN [] z3 k3 f3 = s4 at *
    obtain ⟨v4, z4, k4, f4⟩ := s4
    simp only at hi4 hb4 hrs5
    obtain ⟨lm4, m04, m14, m24, m34, n04, n14, n24, n34⟩ := hrs5.mcells
    obtain ⟨fv, hgd⟩ := hrs5.gd
    have hgl := lt_of_heap hgd.blk
    obtain ⟨q0, q1, q2, _, _, _⟩ := blk3 hgd.blk
    have hF := hgd.fault
    obtain ⟨y0, y1, y2, y3, t0, t1, t2, t3⟩ := blk4 hrs5.z
    have lz := lt_of_heap hrs5.z
    have HGD := Lib.hid hgd
    have HRSE := Lib.hid hrs5
    have HI4 := Lib.hid hi4
    have hk4 := hb4.2.2.2
    clear hgd hrs5 hi4 hb4
    cases f4 with
    | some pf =>
      obtain ⟨m, pl⟩ := pf
      obtain ⟨gf, rfl, hgf, hn1, hn2⟩ := hF
      have HGF := Lib.hid hgf
      clear hgf
      go_wp2_with fail
      go_region
      go_wp2_with fail
      have hgm : gf ≠ w1.heap.size + 1 := fun e => by have h1 := HGF.out; have h2 := HRSE.out.m; rw [e, h2] at h1; injection h1 with h1; injection h1 with _ h1 _; revert h1; decide
      have hg2 : gf ≠ w.heap.size := fun e => by have h1 := HGF.out; have h2 := HRSE.out.z; rw [e, h2] at h1; injection h1 with h1; injection h1 with _ h1 _; revert h1; decide
      have u := ((((((Upd.refl [w1.heap.size + 1, w.heap.size] w5).setCell ⟨w1.heap.size + 1, 2, none⟩ (.int .u32 v4) (by simp)).setCell ⟨w.heap.size, 0, none⟩ (.bool false) (by simp)).setCell ⟨w.heap.size, 1, none⟩ (.int .u32 0) (by simp)).setCell ⟨w.heap.size, 2, none⟩ (.int .u32 0) (by simp)).setCell ⟨w.heap.size, 3, none⟩ (.slice none 0 0) (by simp)).drew
      refine bodyPost_ret (v := .tuple #[.agg #[.bool false, .int .u32 0, .int .u32 0, .slice none 0 0], .iface 47 (.pointer (some ⟨gf, 0, none⟩))]) (by simp [results, Tryd.results10, go_sem, *]) rfl ⟨?_, u.ext HRSE.out.ext (by simp; omega)⟩
      rw [HP.out]
      exact ⟨gf, rfl, u.heap HGF.out (by simp; exact ⟨hgm, hg2⟩)⟩
    | none =>
      obtain rfl : fv = .pointer none := hF
      obtain ⟨hz4, hkn⟩ := HI4.out.1 rfl
      have hkp : 4 ≤ k4 := by have := (HI4.out.2 rfl).2; omega
      rw [H.out.1] at hkn
      have HZ4 := Lib.hid hz4
      clear hz4
      obtain ⟨g0, o0, rfl⟩ : ∃ g o, a = some ⟨g, o, none⟩ := by
        rcases H.out.2.2.2.2 with h0 | ⟨g, o, h0, _⟩
        · omega
        · exact ⟨g, o, h0⟩
      have hkc : k4 ≤ c := by omega
      have HCL := Lib.hid (fun W (hW : Ext w W) A hA => clone_any A (n - k4) (c - k4) (zs.drop k4) (by omega) W ((H.out.cut hkn A hA).ext hW))
      have hW1 : Ext w (w5.setCell ⟨w1.heap.size + 1, 2, none⟩ (.int .u32 v4)) := (HRSE.out.set 2 (.int .u32 v4) true v1 v4 rfl).ext
      have HW1 := Lib.hid hW1
      clear hW1
      by_cases hck : c = k4
      · have hnk : n = c := by omega
        subst hnk
        subst hck
        rw [Nat.sub_self] at HCL
        go_wp2_with fail
        refine (HCL.out _ HW1.out (some ⟨g0, o0, none⟩) (fun h => by omega) (fun e => by cases e)).mono ?_
        rintro r w6 ⟨v6, rfl, hO6, hX6⟩
        obtain ⟨a6, c6, rfl, _, _⟩ := hO6.row2 (fun z hz => H.out.2.2.2.1 z (List.mem_of_mem_drop hz))
        have hrs6 := (HRSE.out.set 2 (.int .u32 v4) true v1 v4 rfl).on hX6
        obtain ⟨y0', y1', y2', y3', t0', t1', t2', t3'⟩ := blk4 hrs6.z
        have lz' := lt_of_heap hrs6.z
        obtain ⟨le, e0, e1, e2, e3, p0, p1, p2, p3⟩ := hrs6.mcells
        have HRS6 := Lib.hid hrs6
        have HO6 := Lib.hid hO6
        have hsz : w5.heap.size ≤ w6.heap.size := by have := hX6.size; rw [size_setCell] at this; exact this
        clear hrs6 hO6 hX6
        have HL := Lib.hid (show (zs.drop n).length = (zs.drop n).length from rfl)
        generalize (zs.drop n).length = dl at *
        go_wp2_with fail
        have u := (((((Upd.refl [w1.heap.size + 1, w.heap.size] w6).setCell ⟨w1.heap.size + 1, 3, none⟩ (.slice a6 dl c6) (by simp)).setCell ⟨w.heap.size, 0, none⟩ (.bool true) (by simp)).setCell ⟨w.heap.size, 1, none⟩ (.int .u32 v1) (by simp)).setCell ⟨w.heap.size, 2, none⟩ (.int .u32 v4) (by simp)).setCell ⟨w.heap.size, 3, none⟩ (.slice a6 dl c6) (by simp)
        refine bodyPost_ret (v := .tuple #[.agg #[.bool true, .int .u32 v1, .int .u32 v4, .slice a6 dl c6], .nilIface]) (by simp [results, Tryd.results10, go_sem, *]) rfl ⟨?_, u.ext HRS6.out.ext (by simp; omega)⟩
        rw [HP.out]
        refine ⟨_, rfl, (HO6.out.upd u (fun g hg => ?_)).low (HRSE.out.set 2 (.int .u32 v4) true v1 v4 rfl).ext.size⟩
        have h1 := (HO6.out.lt hg).1
        rw [size_setCell] at h1
        simp
        omega
      · go_wp2_with fail
        refine (HCL.out _ HW1.out _ (fun _ => rfl) (fun e => by cases e)).mono ?_
        rintro r w6 ⟨v6, rfl, hO6, hX6⟩
        obtain ⟨a6, c6, rfl, _, _⟩ := hO6.row2 (fun z hz => H.out.2.2.2.1 z (List.mem_of_mem_drop hz))
        have hrs6 := (HRSE.out.set 2 (.int .u32 v4) true v1 v4 rfl).on hX6
        obtain ⟨y0', y1', y2', y3', t0', t1', t2', t3'⟩ := blk4 hrs6.z
        have lz' := lt_of_heap hrs6.z
        obtain ⟨le, e0, e1, e2, e3, p0, p1, p2, p3⟩ := hrs6.mcells
        have HRS6 := Lib.hid hrs6
        have HO6 := Lib.hid hO6
        have hsz : w5.heap.size ≤ w6.heap.size := by have := hX6.size; rw [size_setCell] at this; exact this
        clear hrs6 hO6 hX6
        have HL := Lib.hid (show (zs.drop k4).length = (zs.drop k4).length from rfl)
        generalize (zs.drop k4).length = dl at *
        go_wp2_with fail
        have u := (((((Upd.refl [w1.heap.size + 1, w.heap.size] w6).setCell ⟨w1.heap.size + 1, 3, none⟩ (.slice a6 dl c6) (by simp)).setCell ⟨w.heap.size, 0, none⟩ (.bool true) (by simp)).setCell ⟨w.heap.size, 1, none⟩ (.int .u32 v1) (by simp)).setCell ⟨w.heap.size, 2, none⟩ (.int .u32 v4) (by simp)).setCell ⟨w.heap.size, 3, none⟩ (.slice a6 dl c6) (by simp)
        refine bodyPost_ret (v := .tuple #[.agg #[.bool true, .int .u32 v1, .int .u32 v4, .slice a6 dl c6], .nilIface]) (by simp [results, Tryd.results10, go_sem, *]) rfl ⟨?_, u.ext HRS6.out.ext (by simp; omega)⟩
        rw [HP.out]
        refine ⟨_, rfl, (HO6.out.upd u (fun g hg => ?_)).low (HRSE.out.set 2 (.int .u32 v4) true v1 v4 rfl).ext.size⟩
        have h1 := (HO6.out.lt hg).1
        rw [size_setCell] at h1
        simp
        omega
  · have hdv : (v2 == 1) = false := by simpa using hv2
    have HRS3 := Lib.hid (hrs3.set 0 (.bool false) false v1 0 rfl)
    have hi3 := stepN_inv (l := [2]) hi2.1
    have hb3 := stepN_bd (l := [2]) (k := k2) (f := f2) hb2.2.2.1
    have hk2 := hb2.2.2.2
    have HI2 := Lib.hid hi2
    have HB2 := Lib.hid hb2
    clear hi2 hb2
    rw [rd2_no _ _ hv2] at HP
    clear hrs3 HRS2
    go_wp2_with fail
    refine (HRS3.out.nextA (by omega) 2 (by omega) _ (size_setCell _ _ _).symm).mono ?_
    rintro r w4 ⟨rfl, hrs4⟩
    generalize stepN [2] z2 k2 f2 = s3 at *
    obtain ⟨v3, z3, k3, f3⟩ := s3
    simp only at hi3 hb3 hrs4
    obtain ⟨lm3, m03, m13, m23, m33, n03, n13, n23, n33⟩ := hrs4.mcells
    have hi4 := stepN_inv (l := [536870913]) hi3.1
    have hb4 := stepN_bd (l := [536870913]) (k := k3) (f := f3) hb3.2.2.1
    have hk3 := hb3.2.2.2
    have HI3 := Lib.hid hi3
    have HB3 := Lib.hid hb3
    clear hi3 hb3
    rw [rd3_eq] at HP
    have HRS4 := Lib.hid hrs4
    clear hrs4 HRS3
    go_wp2_with fail
    refine (HRS4.out.nextA (by omega) 536870913 (by omega) _ rfl).mono ?_
    rintro r w5 ⟨rfl, hrs5⟩
    generalize stepN [536870913] z3 k3 f3 = s4 at *
    obtain ⟨v4, z4, k4, f4⟩ := s4
    simp only at hi4 hb4 hrs5
    obtain ⟨lm4, m04, m14, m24, m34, n04, n14, n24, n34⟩ := hrs5.mcells
    have hi5 := stepN_inv (l := [1]) hi4.1
    have hb5 := stepN_bd (l := [1]) (k := k4) (f := f4) hb4.2.2.1
    have hk4 := hb4.2.2.2
    have HI4 := Lib.hid hi4
    have HB4 := Lib.hid hb4
    clear hi4 hb4
    rw [rd4_eq] at HP
    have HRS5 := Lib.hid hrs5
    clear hrs5 HRS4
    go_wp2_with fail
    refine (HRS5.out.nextA (by omega) 1 (by omega) _ rfl).mono ?_
    rintro r w7 ⟨rfl, hrs7⟩
    generalize stepN [1] z4 k4 f4 = s5 at *
    obtain ⟨v5, z5, k5, f5⟩ := s5
    simp only at hi5 hb5 hrs7
    obtain ⟨lm5, m05, m15, m25, m35, n05, n15, n25, n35⟩ := hrs7.mcells
    have hi6 := stepN_inv (l := []) hi5.1
    have hb6 := stepN_bd (l := []) (k := k5) (f := f5) hb5.2.2.1
    have hk5 := hb5.2.2.2
    have HI5 := Lib.hid hi5
    have HB5 := Lib.hid hb5
    clear hi5 hb5
    rw [rd5_eq] at HP
    have HRS7 := Lib.hid hrs7
    clear hrs7 HRS5
    go_wp2_with fail
    refine (HRS7.out.next0 (by omega)).mono ?_
    rintro r w8 ⟨rfl, hrs8⟩
    generalize stepN [] z5 k5 f5 = s6 at *
    obtain ⟨v6, z6, k6, f6⟩ := s6
    simp only at hi6 hb6 hrs8
    obtain ⟨lm6, m06, m16, m26, m36, n06, n16, n26, n36⟩ := hrs8.mcells
    obtain ⟨fv, hgd⟩ := hrs8.gd
    have hgl := lt_of_heap hgd.blk
    obtain ⟨q0, q1, q2, _, _, _⟩ := blk3 hgd.blk
    have hF := hgd.fault
    obtain ⟨y0, y1, y2, y3, t0, t1, t2, t3⟩ := blk4 hrs8.z
    have lz := lt_of_heap hrs8.z
    have HGD := Lib.hid hgd
    have HRSE := Lib.hid hrs8
    have HI6 := Lib.hid hi6
    have hk6 := hb6.2.2.2
    clear hgd hrs8 hi6 hb6
    cases f6 with
    | some pf =>
      obtain ⟨m, pl⟩ := pf
      obtain ⟨gf, rfl, hgf, hn1, hn2⟩ := hF
      have HGF := Lib.hid hgf
      clear hgf
      go_wp2_with fail
      go_region
      go_wp2_with fail
      have hgm : gf ≠ w1.heap.size + 1 := fun e => by have h1 := HGF.out; have h2 := HRSE.out.m; rw [e, h2] at h1; injection h1 with h1; injection h1 with _ h1 _; revert h1; decide
      have hg2 : gf ≠ w.heap.size := fun e => by have h1 := HGF.out; have h2 := HRSE.out.z; rw [e, h2] at h1; injection h1 with h1; injection h1 with _ h1 _; revert h1; decide
      have u := ((((((Upd.refl [w1.heap.size + 1, w.heap.size] w8).setCell ⟨w1.heap.size + 1, 2, none⟩ (.int .u32 v6) (by simp)).setCell ⟨w.heap.size, 0, none⟩ (.bool false) (by simp)).setCell ⟨w.heap.size, 1, none⟩ (.int .u32 0) (by simp)).setCell ⟨w.heap.size, 2, none⟩ (.int .u32 0) (by simp)).setCell ⟨w.heap.size, 3, none⟩ (.slice none 0 0) (by simp)).drew
      refine bodyPost_ret (v := .tuple #[.agg #[.bool false, .int .u32 0, .int .u32 0, .slice none 0 0], .iface 47 (.pointer (some ⟨gf, 0, none⟩))]) (by simp [results, Tryd.results10, go_sem, *]) rfl ⟨?_, u.ext HRSE.out.ext (by simp; omega)⟩
      rw [HP.out]
      exact ⟨gf, rfl, u.heap HGF.out (by simp; exact ⟨hgm, hg2⟩)⟩
    | none =>
      obtain rfl : fv = .pointer none := hF
      obtain ⟨hz6, hkn⟩ := HI6.out.1 rfl
      have hkp : 4 ≤ k6 := by have := (HI6.out.2 rfl).2; omega
      rw [H.out.1] at hkn
      have HZ6 := Lib.hid hz6
      clear hz6
      obtain ⟨g0, o0, rfl⟩ : ∃ g o, a = some ⟨g, o, none⟩ := by
        rcases H.out.2.2.2.2 with h0 | ⟨g, o, h0, _⟩
        · omega
        · exact ⟨g, o, h0⟩
      have hkc : k6 ≤ c := by omega
      have HCL := Lib.hid (fun W (hW : Ext w W) A hA => clone_any A (n - k6) (c - k6) (zs.drop k6) (by omega) W ((H.out.cut hkn A hA).ext hW))
      have hW1 : Ext w (w8.setCell ⟨w1.heap.size + 1, 2, none⟩ (.int .u32 v6)) := (HRSE.out.set 2 (.int .u32 v6) false v1 v6 rfl).ext
      have HW1 := Lib.hid hW1
      clear hW1
      by_cases hck : c = k6
      · have hnk : n = c := by omega
        subst hnk
        subst hck
        rw [Nat.sub_self] at HCL
        go_wp2_with fail
        refine (HCL.out _ HW1.out (some ⟨g0, o0, none⟩) (fun h => by omega) (fun e => by cases e)).mono ?_
        rintro r w6 ⟨v6, rfl, hO6, hX6⟩
        obtain ⟨a6, c6, rfl, _, _⟩ := hO6.row2 (fun z hz => H.out.2.2.2.1 z (List.mem_of_mem_drop hz))
        have hrs6 := (HRSE.out.set 2 (.int .u32 v6) false v1 v6 rfl).on hX6
        obtain ⟨y0', y1', y2', y3', t0', t1', t2', t3'⟩ := blk4 hrs6.z
        have lz' := lt_of_heap hrs6.z
        obtain ⟨le, e0, e1, e2, e3, p0, p1, p2, p3⟩ := hrs6.mcells
        have HRS6 := Lib.hid hrs6
        have HO6 := Lib.hid hO6
        have hsz : w8.heap.size ≤ w6.heap.size := by have := hX6.size; rw [size_setCell] at this; exact this
        clear hrs6 hO6 hX6
        have HL := Lib.hid (show (zs.drop n).length = (zs.drop n).length from rfl)
        generalize (zs.drop n).length = dl at *
        go_wp2_with fail
        have u := (((((Upd.refl [w1.heap.size + 1, w.heap.size] w6).setCell ⟨w1.heap.size + 1, 3, none⟩ (.slice a6 dl c6) (by simp)).setCell ⟨w.heap.size, 0, none⟩ (.bool false) (by simp)).setCell ⟨w.heap.size, 1, none⟩ (.int .u32 v1) (by simp)).setCell ⟨w.heap.size, 2, none⟩ (.int .u32 v6) (by simp)).setCell ⟨w.heap.size, 3, none⟩ (.slice a6 dl c6) (by simp)
        refine bodyPost_ret (v := .tuple #[.agg #[.bool false, .int .u32 v1, .int .u32 v6, .slice a6 dl c6], .nilIface]) (by simp [results, Tryd.results10, go_sem, *]) rfl ⟨?_, u.ext HRS6.out.ext (by simp; omega)⟩
        rw [HP.out]
        refine ⟨_, rfl, (HO6.out.upd u (fun g hg => ?_)).low (HRSE.out.set 2 (.int .u32 v6) false v1 v6 rfl).ext.size⟩
        have h1 := (HO6.out.lt hg).1
        rw [size_setCell] at h1
        simp
        omega
      · go_wp2_with fail
        refine (HCL.out _ HW1.out _ (fun _ => rfl) (fun e => by cases e)).mono ?_
        rintro r w6 ⟨v6, rfl, hO6, hX6⟩
        obtain ⟨a6, c6, rfl, _, _⟩ := hO6.row2 (fun z hz => H.out.2.2.2.1 z (List.mem_of_mem_drop hz))
        have hrs6 := (HRSE.out.set 2 (.int .u32 v6) false v1 v6 rfl).on hX6
        obtain ⟨y0', y1', y2', y3', t0', t1', t2', t3'⟩ := blk4 hrs6.z
        have lz' := lt_of_heap hrs6.z
        obtain ⟨le, e0, e1, e2, e3, p0, p1, p2, p3⟩ := hrs6.mcells
        have HRS6 := Lib.hid hrs6
        have HO6 := Lib.hid hO6
        have hsz : w8.heap.size ≤ w6.heap.size := by have := hX6.size; rw [size_setCell] at this; exact this
        clear hrs6 hO6 hX6
        have HL := Lib.hid (show (zs.drop k6).length = (zs.drop k6).length from rfl)
        generalize (zs.drop k6).length = dl at *
        go_wp2_with fail
        have u := (((((Upd.refl [w1.heap.size + 1, w.heap.size] w6).setCell ⟨w1.heap.size + 1, 3, none⟩ (.slice a6 dl c6) (by simp)).setCell ⟨w.heap.size, 0, none⟩ (.bool false) (by simp)).setCell ⟨w.heap.size, 1, none⟩ (.int .u32 v1) (by simp)).setCell ⟨w.heap.size, 2, none⟩ (.int .u32 v6) (by simp)).setCell ⟨w.heap.size, 3, none⟩ (.slice a6 dl c6) (by simp)
        refine bodyPost_ret (v := .tuple #[.agg #[.bool false, .int .u32 v1, .int .u32 v6, .slice a6 dl c6], .nilIface]) (by simp [results, Tryd.results10, go_sem, *]) rfl ⟨?_, u.ext HRS6.out.ext (by simp; omega)⟩
        rw [HP.out]
        refine ⟨_, rfl, (HO6.out.upd u (fun g hg => ?_)).low (HRSE.out.set 2 (.int .u32 v6) false v1 v6 rfl).ext.size⟩
        have h1 := (HO6.out.lt hg).1
        rw [size_setCell] at h1
        simp
        omega
end Go.Proofs.YtcnbgcoklbmdaaaDoor
