/- The walk of codes.All. -/
import Derived.Test.YtfbdahhlhmdicaaDoorA4
import Derived.OwnWalk
namespace Go.Proofs.YtfbdahhlhmdicaaDoor
open Go.ChangeShapes Go.WideShapes Go.ChangeAt Go.RowKit

theorem info22 : (Tryd.prog.info? 22).map (fun i => (i.zero, i.size, i.bytes)) = some (some (.int .i64 0), 1, 8) := by kernel_rfl

/-- An append whose run is known. -/
theorem wpList_append_run {P : Program} {w w' : World} {ops : Array Oper} {rest : List Oper} {o : Oper} {a : Act} {Q : Exit → Act → World → Prop} (hgd : o.guard = none) (s x : Operand) (ats : Array TypeId)
    (ho : o.op = .call { callee := .builtin .append, args := #[s, x], argTypes := ats }) (v y v' : Value) (hs : a.eval s = v) (hx : a.eval x = y)
    (hrun : (Builtin.append_ ats o.type #[v, y]).run P w = .ok v' w') (h : wpList P ops Q rest (a.put o.dst v') w') : wpList P ops Q (o :: rest) a w := by
  refine wpList_plain hgd fun K hK => ?_
  unfold Oper.wp execOp
  simp only [ho, resolve, invoke, builtin, Sem.run_bind, Sem.run_pure, Result.andThen_ok, List.map_toArray, List.map_cons, List.map_nil, hs, hx, hrun]
  exact hK _ _ h

/-- What holds ahead of round k of All. -/
def AllRel (w : World) (k : Nat) (v : Value) (wr : World) : Prop := wr.ownsRow w.heap.size 22 1 v k ((errs.take k).map (Value.int .i64)) ∧ Ext w wr
theorem AllRel.next {w wr w1 : World} {k : Nat} {v v' : Value} {o o' : Obj} (h : AllRel w k v wr) (hk : k < 19) 
    (hown : w1.ownsRow w.heap.size 22 1 v' (k + 1) ((errs.take k).map (Value.int .i64) ++ [.int .i64 (rowAt k).e])) (hg : ((wr.alloc o).alloc o').grownBy w1 v.ownBlock) : AllRel w (k + 1) v' w1 := by
  refine ⟨?_, ?_⟩
  · have : (errs.take (k + 1)).map (Value.int .i64) = (errs.take k).map (Value.int .i64) ++ [.int .i64 (rowAt k).e] := by
      have hl : k < errs.length := hk
      rw [List.take_succ_eq_append_getElem hl, List.map_append, ← err_at k hk]
      simp [hl]
    rw [this]; exact hown
  · have h2 : Ext w ((wr.alloc o).alloc o') := (h.2.alloc _).alloc _
    exact Below.grown h2 hg h2.size (fun j hj => (h.1.lt j hj).1)

theorem cell_new1 (w : World) (A : Obj) (x : Value) (t : TypeId) : ∀ j u, [x][j]? = some u → ((w.alloc A).alloc (.cells #[x] t)).cell? ((⟨w.heap.size + 1, 0, none⟩ : Addr).add j) = some u := by
  intro j u hj
  cases j with
  | zero => simp at hj; subst hj; simp [Addr.add]
  | succ j => simp at hj

set_option maxHeartbeats 1000000 in
theorem all_any (w : World) (ht : TabW w) : Calls Tryd.prog 20 #[] w fun r w' => ∃ v, r = .returned v ∧ AllRel w 19 v w' := by
  obtain ⟨tt, fr, hg⟩ := ht
  have h0 : 0 < w.heap.size := (Array.getElem?_eq_some_iff.1 hg).1
  obtain ⟨i0, hi, hz0, hz1, hz2⟩ := info_parts info22
  have Hi := Lib.hid hi
  have Hz0 := Lib.hid hz0
  have Hz1 := Lib.hid hz1
  have Hz2 := Lib.hid hz2
  clear hi hz0 hz1 hz2
  go_enter Tryd.func20, Tryd.ntmps20
  go_wp2_with (refine wpList_load_row rfl 44 _ rfl 0 rfl tt tabCells fr _ hg Tryd.underlying44 rfl (by kernel_rfl) ?_)
  go_loopw [1, 5] (fun v1 v5 wr => ∃ k : Nat, k ≤ 19 ∧ v5 = .int .i64 k ∧ AllRel w k v1 wr) (fun _ v5 _ => 19 - (intOf v5).toNat)
  case atStart => exact ⟨0, by omega, rfl, World.ownsRow_nil _ _ _ _, Ext.refl w⟩
  case round =>
    obtain ⟨k, hk, rfl, HR⟩ := hrel
    by_cases hlt : k < 19
    · have hd : decide ((k : Int) < 19) = true := by simp; omega
      obtain ⟨r, hr⟩ : ∃ r, r = rowAt k := ⟨_, rfl⟩
      have hix := idx k hlt
      rw [← hr] at hix
      unfold Row.val at hix
      have Hr := Lib.hid hr
      clear hr
      obtain ⟨v', w1, hrun, hown', hgrow, _⟩ := run_append_own (P := Tryd.prog) ((wr.alloc (.cells #[.int .i64 r.e, .int .u32 r.s, .int .i64 r.c, .string ⟨r.t.toArray⟩] 38)).alloc (.cells #[.int .i64 r.e] 22)) w.heap.size 24 24 22 i0 (.int .i64 0) 1 8
        Tryd.underlying24 Hi.out Hz0.out Hz1.out Hz2.out rfl (by decide) u1 k _ ((HR.1.alloc _).alloc _) ⟨wr.heap.size + 1, 0, none⟩ 1 1 [.int .i64 r.e] rfl
        (cell_new1 _ _ _ _) (by simp [Value.oneCell']) (by unfold maxLen; omega) (by omega) (by have := HR.2.size; simp; omega)
      have N := Lib.hid (HR.next hlt (by rw [← Hr.out]; exact hown') hgrow)
      have Hrun := Lib.hid hrun
      clear hown' hgrow hrun
      go_wp2_with (at_builtin; refine wpList_append_run rfl _ _ _ rfl _ _ _ rfl rfl Hrun.out ?_)
      go_roundw
      case rel => exact ⟨k + 1, by omega, by go_num, N.out⟩
      case measure => simp [intOf]; omega
    · have hd : decide ((k : Int) < 19) = false := by simp; omega
      obtain rfl : k = 19 := by omega
      have H := Lib.hid HR
      clear HR
      go_wp2_with fail
      go_ret
      exact ⟨_, rfl, H.out⟩
end Go.Proofs.YtfbdahhlhmdicaaDoor
