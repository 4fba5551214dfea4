/- maps.Keys as an iterator over a map with integer keys: the keys come, each once, in some order. -/
import Derived.Test.YtekdoannpkifaaaFkA
namespace Go.Proofs.Ytekdoannpkifaaa
open Go.ChangeShapes Go.WideShapes Go.ChangeAt Go.RowKit
open Go.Shelf

section
variable {F : Fence} {n : Nat} {P : Program} {w w' : World} {ops : Array Oper} {rest : List Oper} {o : Oper} {a : Act} {Q : Exit → Act → World → Prop}
theorem wpListIn_range_run (hg : o.guard = none) (t : TypeId) (m : Operand) (hop : o.op = Op.range t m) (mv v' : Value) (hm : a.eval m = mv) (hrun : (Instr.range t mv).run P w = .ok v' w')
    (h : wpListIn F n P ops Q rest (a.put o.dst v') w') : wpListIn F n P ops Q (o :: rest) a w := by
  refine wpListIn_plain hg fun K' hK' => ?_
  unfold Oper.wpIn
  refine ⟨by simp [Oper.about, hop], ?_⟩
  rw [Oper.semAt_plain F _ _ (by rw [hop]; intro c hc'; cases hc')]
  simp [execOp, hop, hm, hrun, Result.andThen]
  exact hK' _ _ h
theorem wpListIn_next_run (hg : o.guard = none) (it : Operand) (hop : o.op = Op.next it false) (iv v' : Value) (hm : a.eval it = iv) (hrun : (Instr.next iv false o.type).run P w = .ok v' w')
    (h : wpListIn F n P ops Q rest (a.put o.dst v') w') : wpListIn F n P ops Q (o :: rest) a w := by
  refine wpListIn_plain hg fun K' hK' => ?_
  unfold Oper.wpIn
  refine ⟨by simp [Oper.about, hop], ?_⟩
  rw [Oper.semAt_plain F _ _ (by rw [hop]; intro c hc'; cases hc')]
  simp [execOp, hop, hm, hrun, Result.andThen]
  exact hK' _ _ h
end
theorem grown_of_upd {w w' : World} {r : Nat} (h : Upd [r] w w') : w.grownBy w' (some r) := ⟨h.os, h.tape, h.output, h.size, fun k hk hn => h.block k hk (fun hm => hn (by simp at hm; rw [hm]))⟩
theorem grown_of_ext {w w' : World} (h : Ext w w') : w.grownBy w' none := ⟨h.os, h.tape, h.output, h.size, fun k hk _ => h.block k hk⟩
theorem RngIs.of_walks {w w' : World} {b r : Nat} {q : IntKind} {l : List (Int × Value)} {left : List Int} (h : RngIs w b r q l left) (hk : KeepsWalks w w') : RngIs w' b r q l left := by
  obtain ⟨es, clock, seen, c0, p1, p2, p3, p4, p5, p6⟩ := h
  exact ⟨es, clock, seen, c0, hk.same b _ p1 rfl, p2, p3, p4, hk.same r _ p5 rfl, p6⟩
theorem RngIs.walk {w : World} {b r : Nat} {q : IntKind} {l : List (Int × Value)} {left : List Int} (h : RngIs w b r q l left) : ∃ o : Obj, w.heap[r]? = some o ∧ o.isWalk = true := by
  obtain ⟨es, clock, seen, c0, p1, p2, p3, p4, p5, p6⟩ := h
  exact ⟨_, p5, rfl⟩

set_option maxRecDepth 100000 in
set_option maxHeartbeats 2000000 in
theorem keys1_in (n : Nat) (hn : 1 ≤ n) (l Bm b : Nat) (L : List (Int × Value)) (J : List Int → World → Prop)
    (hY : ∀ pre x W, J pre W → pre.length < L.length → YieldAt Fence.wide (n - 1) Try.prog l #[encZ x] W fun e W' => e = .returned (.bool true) ∧ J (pre ++ [x]) W' ∧ KeepsWalks W W')
    (W : World) (hJ : AbidesFrom W.heap.size J) (hm : W.cell? ⟨Bm, 0, none⟩ = some (.map (some b))) (hown : MapIs W b .i64 L) (h0 : J [] W) :
    CallsIn Fence.wide n Try.prog 30 #[.func (.yield l) #[] #[], .pointer (some ⟨Bm, 0, none⟩)] W fun e W' => (∃ v, e = .returned v) ∧ ∃ ss : List Int, ss.Perm (L.map (·.1)) ∧ J ss W' := by
  obtain ⟨ob, hrun, hR⟩ := hown.range (P := Try.prog) Try.underlying58
  have HRun := Lib.hid hrun
  have HR := Lib.hid hR
  have HJ0 := Lib.hid (hJ [] W (W.alloc ob) none h0 (grown_of_ext ((Ext.refl W).alloc ob)) (fun r e => by cases e))
  have HJ := Lib.hid hJ
  clear hrun hR h0 hJ
  refine callsIn_of_wp Try.func30 rfl trivial ?_ rfl
  simp only [Try.ntmps30, List.size_toArray, List.length_cons, List.length_nil, Nat.reduceAdd, Nat.reduceSub, Array.replicate_succ, Array.replicate_zero, List.push_toArray, List.append_toArray, List.nil_append, List.cons_append]
  gi_wp2_with (first
    | (gi_at_range; refine wpListIn_range_run rfl _ _ rfl _ _ rfl HRun.out ?_)
    | gi_in)
  go_frame
  gi_loopw [3] (fun _ wr => ∃ (left ss : List Int), RngIs wr b W.heap.size .i64 L left ∧ (ss ++ left).Perm (L.map (·.1)) ∧ J ss wr)
    (fun _ wr => wr.rangeLeft b W.heap.size)
  case atStart =>
    exact ⟨_, [], HR.out, by simp, HJ0.out⟩
  case round =>
    obtain ⟨left, ss, hrg, hP, hJs⟩ := hrel
    rcases hrg.next (P := Try.prog) 0 with ⟨rfl, hnx⟩ | ⟨k, v, left', w2, hp, hnx, hrg2, hu2, hen, hsz⟩
    · have HN := Lib.hid hnx
      clear hnx
      gi_wp2_with (first | (gi_at_next; refine wpListIn_next_run rfl _ rfl _ _ rfl HN.out ?_) | gi_in)
      go_end0
      exact ⟨⟨_, rfl⟩, ss, by simpa using hP, hJs⟩
    · have HN := Lib.hid hnx
      have hJ2 : J ss w2 := HJ.out ss wr w2 (some W.heap.size) hJs (grown_of_upd hu2) (fun r e => by cases e; exact ⟨Nat.le_refl _, hrg.walk⟩)
      have hlen : ss.length < L.length := by
        have h1 := hP.length_eq
        have h2 := hp.length_eq
        simp at h1 h2
        omega
      obtain ⟨fn, tmps, assign, body, hy, hR⟩ := hY ss k w2 hJ2 hlen
      have HL := Lib.hid hrg.left_eq
      have HL2 := Lib.hid hp.length_eq
      clear hnx hrg hsz hlen hu2
      gi_wp2_with (first | (gi_at_next; refine wpListIn_next_run rfl _ rfl _ _ rfl HN.out ?_) | gi_in)
      refine hR.mono ?_
      rintro e W3 ⟨rfl, hJ3, hk3⟩
      gi_wp2
      have hrg3 := hrg2.of_walks hk3
      go_roundw
      case rel => exact ⟨left', ss ++ [k], hrg3, by
        have h1 : (ss ++ left).Perm (ss ++ k :: left') := (List.Perm.refl ss).append hp
        simpa using h1.symm.trans hP, hJ3⟩
      case measure => rw [hrg3.left_eq, HL.out, HL2.out]; simp
end Go.Proofs.Ytekdoannpkifaaa
