/- The walk of the document's Each. -/
import Derived.Test.YtmdacpkkglhefaaInoT
namespace Go.Proofs.Ytmdacpkkglhefaa.inoI
open Go.ChangeShapes Go.WideShapes Go.ChangeAt Go.RowKit
open Go.Proofs.Ytmdacpkkglhefaa

theorem eachR_len (L : List Rec) : ∀ k, (eachR L k).length ≤ k * L.length
  | 0 => by simp [eachR]
  | k + 1 => by
    have h1 := eachR_len L k
    have h2 := List.length_filter_le (inn ((k : Int) + 1)) L
    rw [eachR, List.length_append, Nat.add_mul, Nat.one_mul]
    omega
theorem inn_rec {ino : Int} {r : Rec} (h : inn ino r = true) : r = ⟨ino, r.gen, r.n, true⟩ := by
  obtain ⟨a, b, c, d⟩ := r
  simp only [inn, Bool.and_eq_true, beq_iff_eq] at h
  obtain ⟨rfl, rfl⟩ := h
  rfl
/-- Where the document's Each stands: what is told is R. -/
structure EachW (w : World) (n : Nat) (a : Option Addr) (l cap : Nat) (v3 : Value) (R : List Rec) (W : World) : Prop where
  out : RecRow W w.heap.size v3 R
  box : W.heap[w.heap.size]? = some (.cells #[.int .i64 n, .slice a l cap] 51 (0, 0))
  ext : Ext w W

set_option maxRecDepth 100000 in
set_option maxHeartbeats 4000000 in
theorem refEach (w : World) (base : Nat) (n : Nat) (hn : n ≤ 100) (v : Value) (L : List Rec) (h : RecRow w base v L) (hl : L.length ≤ 100) :
    Calls Try.prog 30 #[.agg #[.int .i64 n, v]] w fun r w' => ∃ v', r = .returned v' ∧ RecRow w' w.heap.size v' (eachR L n) ∧ Ext w w' := by
  have H := Lib.hid h
  obtain ⟨a, cap, rfl, -⟩ := h.form
  clear h
  obtain ⟨l, hl'⟩ : ∃ l, l = L.length := ⟨_, rfl⟩
  rw [← hl'] at H hl ⊢
  have HLl := Lib.hid hl'
  clear hl'
  go_enter Try.func30, Try.ntmps30
  go_wp2_with fail
  go_loopw [3, 4] (fun v3 v4 wr => ∃ k : Nat, k ≤ n ∧ v4 = .int .i64 ((k : Int) + 1) ∧ EachW w n a l cap v3 (eachR L k) wr) (fun _ v4 _ => n + 1 - (intOf v4).toNat)
  case atStart => exact ⟨0, by omega, rfl, RecRow.nil _ _, heap_alloc_new w _, (Ext.refl w).alloc _⟩
  case round =>
    obtain ⟨k, hk, rfl, hM⟩ := hrel
    have HM := Lib.hid hM
    obtain ⟨s0, s1, -, -⟩ := blk2 hM.box
    obtain ⟨a3, c3, rfl, -⟩ := hM.out.form
    have hz := lt_of_heap hM.box
    clear hM
    generalize hm3 : (eachR L k).length = m3 at *
    have HM3 := Lib.hid hm3
    clear hm3
    by_cases hkn : k < n
    · have hd : decide ((k : Int) + 1 ≤ (n : Int)) = true := by simp; omega
      obtain ⟨wo, hwo⟩ : ∃ wo : World, wo = wr := ⟨_, rfl⟩
      subst hwo
      go_wp2_with fail
      go_loopw [3, 5] (fun v3 v5 wr => ∃ j : Nat, j ≤ l ∧ v5 = .int .i64 j ∧ EachW w n a l cap v3 (eachR L k ++ (L.take j).filter (inn ((k : Int) + 1))) wr) (fun _ v5 _ => l - (intOf v5).toNat)
      case atStart => exact ⟨0, by omega, rfl, by simpa using HM.out⟩
      case round =>
        obtain ⟨j, hj, rfl, hM2⟩ := hrel
        have HM2 := Lib.hid hM2
        clear HM s0 s1 hz
        obtain ⟨s0, s1, -, -⟩ := blk2 hM2.box
        have hz := lt_of_heap hM2.box
        have hlen : (eachR L k ++ (L.take j).filter (inn ((k : Int) + 1))).length ≤ 20000 := by
          have h1 := eachR_len L k
          have h2 := List.length_filter_le (inn ((k : Int) + 1)) (L.take j)
          have h3 := List.length_take_le j L
          have h4 : k * L.length ≤ 100 * 100 := Nat.mul_le_mul (by omega) (by rw [← HLl.out]; omega)
          rw [List.length_append]
          omega
        have HLen := Lib.hid hlen
        obtain ⟨a4, c4, rfl, -⟩ := hM2.out.form
        clear hM2 hlen
        generalize hm4 : (eachR L k ++ (L.take j).filter (inn ((k : Int) + 1))).length = m4 at *
        have HM4 := Lib.hid hm4
        clear hm4
        by_cases hjl : j < l
        · have hjL : j < L.length := by rw [← HLl.out]; exact hjl
          obtain ⟨a', cap', hv', hcl, hcm, hcell⟩ := (H.out.ext HM2.out.ext).form
          injection hv' with e1 e3 e2
          subst e1 e2
          clear e3
          obtain ⟨g, rfl, hg, q0, q1, q2, q3⟩ := hcell j hjL
          have hd1 : decide ((j : Int) < (l : Int)) = true := by simp; omega
          have hj0 : (0 : Int) ≤ (j : Int) := by omega
          have hj1 : (j : Int) < (l : Int) := by omega
          rw [← HLl.out] at hcl
          unfold maxLen at hcm
          have HTk := Lib.hid (filter_take (inn ((k : Int) + 1)) L j hjL)
          clear hcell
          cases hp : inn ((k : Int) + 1) L[j]
          · rw [hp] at HTk
            have hq := inn_parts hp
            generalize L[j].ino = ri at *
            generalize L[j].gen = rg at *
            generalize L[j].n = rn at *
            generalize L[j].is = rb at *
            clear hp
            rcases hq with rfl | ⟨rfl, e1⟩
            all_goals
              go_wp2_with fail
              go_roundw
              case rel => exact ⟨j + 1, by omega, by go_num, by rw [HTk.out]; simpa using HM2.out⟩
              case measure => simp [intOf]; omega
          · rw [hp] at HTk
            have hr := inn_rec hp
            generalize L[j] = rj at *
            obtain ⟨ri, rg, rn, rb⟩ := rj
            injection hr with e1 e3 e4 e2
            subst e1 e2
            clear e3 e4
            simp only at q0 q1 q2 q3
            obtain ⟨v2, w2, r1, r2, r3⟩ := HM2.out.out.push (by rw [HM4.out]; have := HLen.out; omega) HM2.out.ext.size ⟨(k : Int) + 1, rg, rn, true⟩ 49
            have hN : EachW w n (some ⟨g, 0, none⟩) l cap v2 (eachR L k ++ (L.take (j + 1)).filter (inn ((k : Int) + 1))) w2 := by
              refine ⟨?_, ?_, ?_⟩
              · rw [HTk.out, ← List.append_assoc]; exact r2
              · refine r3.heap HM2.out.box (fun hm => ?_)
                exact ownsRow_ne HM2.out.out HM2.out.box (by decide) (by simpa using hm)
              · exact r3.ext HM2.out.ext (fun q hq => (World.ownsRow.lt HM2.out.out q (by simpa using hq)).1)
            have HN := Lib.hid hN
            have R1 := Lib.hid r1
            clear r1 r2 r3 hN hp
            go_wp2_with (at_builtin; refine wpList_append_run rfl (.tmp 36) (.tmp 42) _ rfl _ _ _ rfl rfl R1.out ?_)
            go_roundw
            case rel => exact ⟨j + 1, by omega, by go_num, HN.out⟩
            case measure => simp [intOf]; omega
        · obtain rfl : j = l := by omega
          have hd1 : decide ((j : Int) < (j : Int)) = false := by simp
          have HMn : Hid (EachW w n a j cap (.slice a4 m4 c4) (eachR L (k + 1)) wr) := Lib.hid (by
            have := HM2.out
            rw [List.take_of_length_le (by rw [← HLl.out]; omega)] at this
            exact this)
          clear HM2
          go_wp2_with fail
          go_roundw
          case rel => exact ⟨k + 1, by omega, by go_num, HMn.out⟩
          case measure => simp [intOf]; omega
    · obtain rfl : k = n := by omega
      have hd : decide ((k : Int) + 1 ≤ (k : Int)) = false := by simp; omega
      go_wp2_with fail
      go_ret
      exact ⟨_, rfl, HM.out.out, HM.out.ext⟩
end Go.Proofs.Ytmdacpkkglhefaa.inoI
