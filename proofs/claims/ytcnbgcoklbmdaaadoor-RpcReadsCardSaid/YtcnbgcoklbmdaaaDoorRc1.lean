/- An error's number and place, where it is a fault or none; the walk of the law RpcCuts. -/
import Derived.Test.YtcnbgcoklbmdaaaDoorRp6
import Derived.Test.YtcnbgcoklbmdaaaDoorRp3
import Derived.Test.YtcnbgcoklbmdaaaDoorByA
namespace Go.Proofs.YtcnbgcoklbmdaaaDoor
open Go.ChangeShapes Go.WideShapes Go.ChangeAt Go.RowKit

theorem find_nil (w : World) : Calls Tryd.prog 23 #[.nilIface] w fun r w' => r = .returned (.pointer none) ∧ w = w' := by
  go_enter Tryd.func23, Tryd.ntmps23
  go_wp2_with fail
  go_ret
  exact ⟨rfl, rfl⟩
set_option maxRecDepth 100000 in
theorem find_fault (g : Nat) (w : World) : Calls Tryd.prog 23 #[.iface 47 (.pointer (some ⟨g, 0, none⟩))] w fun r w' => r = .returned (.pointer (some ⟨g, 0, none⟩)) ∧ w = w' := by
  have hta : ∀ W, (Instr.typeAssert (.iface 47 (.pointer (some ⟨g, 0, none⟩))) 34 47 true).run Tryd.prog W = .ok (.tuple #[.pointer (some ⟨g, 0, none⟩), .bool true]) W := fun _ => by kernel_rfl
  go_enter Tryd.func23, Tryd.ntmps23
  go_wp2_with fail
  go_ret
  exact ⟨rfl, rfl⟩
theorem number_nil (w : World) : Calls Tryd.prog 13 #[.nilIface] w fun r w' => r = .returned (.int .i64 0) ∧ w = w' := by
  go_enter Tryd.func13, Tryd.ntmps13
  go_wp2_with fail
  go_ret
  exact ⟨rfl, rfl⟩
theorem number_fault (g : Nat) (n p : Int) (w : World) (h : w.heap[g]? = some (.cells #[.int .i64 n, .int .i64 p] 49 (0, 0))) :
    Calls Tryd.prog 13 #[.iface 47 (.pointer (some ⟨g, 0, none⟩))] w fun r w' => r = .returned (.int .i64 n) ∧ w = w' := by
  have hg := lt_of_heap h
  obtain ⟨c0, c1, _, _⟩ := blk2 h
  clear h
  go_enter Tryd.func13, Tryd.ntmps13
  go_wp2_with fail
  refine (find_fault g w).mono ?_
  rintro r w' ⟨rfl, rfl⟩
  go_wp2_with fail
  go_ret
  exact ⟨rfl, rfl⟩
theorem place_nil (w : World) : Calls Tryd.prog 14 #[.nilIface] w fun r w' => r = .returned (.int .i64 (-1)) ∧ w = w' := by
  go_enter Tryd.func14, Tryd.ntmps14
  go_wp2_with fail
  refine (find_nil w).mono ?_
  rintro r w' ⟨rfl, rfl⟩
  go_wp2_with fail
  go_ret
  exact ⟨rfl, rfl⟩
theorem place_fault (g : Nat) (n p : Int) (w : World) (h : w.heap[g]? = some (.cells #[.int .i64 n, .int .i64 p] 49 (0, 0))) :
    Calls Tryd.prog 14 #[.iface 47 (.pointer (some ⟨g, 0, none⟩))] w fun r w' => r = .returned (.int .i64 p) ∧ w = w' := by
  have hg := lt_of_heap h
  obtain ⟨c0, c1, _, _⟩ := blk2 h
  clear h
  go_enter Tryd.func14, Tryd.ntmps14
  go_wp2_with fail
  refine (find_fault g w).mono ?_
  rintro r w' ⟨rfl, rfl⟩
  go_wp2_with fail
  go_ret
  exact ⟨rfl, rfl⟩

theorem stepN_some (l zs : List Int) (k : Nat) (p : Int × Int) : stepN l zs k (some p) = (0, zs, k, some p) := rfl
theorem stepN_short (l zs : List Int) (k : Nat) (h : zs.length < 4) : stepN l zs k none = (0, [], k, some (3, (k : Int))) := by unfold stepN; rw [if_pos h]
theorem take_be4 (n : Int) (rest : List Int) (k : Nat) (h : 4 ≤ k) : (be4 n ++ rest).take k = be4 n ++ rest.take (k - 4) := by
  rw [List.take_append]
  have e : (be4 n).length = 4 := rfl
  rw [e, List.take_of_length_le (by rw [e]; exact h)]
theorem take_short (n : Int) (rest : List Int) (k : Nat) (h : k < 4) : ((be4 n ++ rest).take k).length < 4 := by rw [List.length_take]; omega
theorem rd_some (v1 v2 : Int) (hv : v2 ≠ 1) (z : List Int) (k : Nat) (p : Int × Int) : (rd2 v1 (v2, z, k, some p)).2.2.2.2 = some p := by rw [rd2_no _ _ hv]; rfl
/-- A head that is cut is too short, at the number that is cut. -/
theorem rd_cut (r : Bool) (x p : Int) (hx : 0 ≤ x ∧ x < 4294967296) (hp : 0 ≤ p ∧ p < 4294967296) (k : Nat) (hk : k < (bytesM r x p []).length) : (rdAll ((bytesM r x p []).take k)).2.2.2.2 = some (3, ((k / 4 * 4 : Nat) : Int)) := by
  cases r with
  | true =>
    have e : bytesM true x p [] = be4 x ++ (be4 1 ++ (be4 0 ++ (be4 p ++ []))) := by simp [bytesM, nums, heads]
    rw [e] at hk ⊢
    have hk : k < 16 := by simpa [be4] using hk
    rw [rdAll_eq]
    by_cases h0 : k < 4
    · rw [stepN_short _ _ _ (take_short _ _ _ h0), stepN_some, rd_some _ _ (by omega), show k / 4 * 4 = 0 by omega]
    · rw [take_be4 _ _ _ (by omega), stepN_be4 [] x hx.1 hx.2 _ _ (.inl rfl)]
      by_cases h1 : k - 4 < 4
      · rw [stepN_short _ _ _ (take_short _ _ _ h1), rd_some _ _ (by omega), show k / 4 * 4 = 4 by omega]
      · rw [take_be4 _ _ _ (by omega), stepN_be4 [0, 1] 1 (by omega) (by omega) _ _ (.inr (by simp)), rd2_yes]
        by_cases h2 : k - 4 - 4 < 4
        · rw [stepN_short _ _ _ (take_short _ _ _ h2), show k / 4 * 4 = 8 by omega]; rfl
        · rw [take_be4 _ _ _ (by omega), stepN_be4 [0] 0 (by omega) (by omega) _ _ (.inr (by simp)), stepN_short _ _ _ (take_short _ _ _ (by omega)), show k / 4 * 4 = 12 by omega]
  | false =>
    have e : bytesM false x p [] = be4 x ++ (be4 0 ++ (be4 2 ++ (be4 536870913 ++ (be4 1 ++ (be4 p ++ []))))) := by simp [bytesM, nums, heads]
    rw [e] at hk ⊢
    have hk : k < 24 := by simpa [be4] using hk
    rw [rdAll_eq]
    by_cases h0 : k < 4
    · rw [stepN_short _ _ _ (take_short _ _ _ h0), stepN_some, rd_some _ _ (by omega), show k / 4 * 4 = 0 by omega]
    · rw [take_be4 _ _ _ (by omega), stepN_be4 [] x hx.1 hx.2 _ _ (.inl rfl)]
      by_cases h1 : k - 4 < 4
      · rw [stepN_short _ _ _ (take_short _ _ _ h1), rd_some _ _ (by omega), show k / 4 * 4 = 4 by omega]
      · rw [take_be4 _ _ _ (by omega), stepN_be4 [0, 1] 0 (by omega) (by omega) _ _ (.inr (by simp)), rd2_no _ _ (by omega)]
        by_cases h2 : k - 4 - 4 < 4
        · rw [stepN_short _ _ _ (take_short _ _ _ h2), show k / 4 * 4 = 8 by omega]; rfl
        · rw [take_be4 _ _ _ (by omega), stepN_be4 [2] 2 (by omega) (by omega) _ _ (.inr (by simp)), rd3_eq]
          by_cases h3 : k - 4 - 4 - 4 < 4
          · rw [stepN_short _ _ _ (take_short _ _ _ h3), show k / 4 * 4 = 12 by omega]; rfl
          · rw [take_be4 _ _ _ (by omega), stepN_be4 [536870913] 536870913 (by omega) (by omega) _ _ (.inr (by simp)), rd4_eq]
            by_cases h4 : k - 4 - 4 - 4 - 4 < 4
            · rw [stepN_short _ _ _ (take_short _ _ _ h4), show k / 4 * 4 = 16 by omega]; rfl
            · rw [take_be4 _ _ _ (by omega), stepN_be4 [1] 1 (by omega) (by omega) _ _ (.inr (by simp)), rd5_eq, stepN_short _ _ _ (take_short _ _ _ (by omega)), show k / 4 * 4 = 20 by omega]

set_option maxRecDepth 100000 in
set_option maxHeartbeats 2000000 in
theorem rpcCuts_walk (w : World) (m : MV) (hm : m.Ok) (cut : Int) (w1 : (Lit.int .i64 cut).wf = true) :
    Calls Tryd.prog 4 #[m.val, .int .i64 cut] w fun r w' => r = .returned (.bool true) ∧ Ext w w' := by
  obtain ⟨r, x, p, s⟩ := m
  obtain ⟨hx0, hx1, hp0, hp1, hb⟩ := hm
  simp only at hx0 hx1 hp0 hp1 hb
  have HBy := Lib.hid (fun W => refBytes_any r x p ⟨hx0, hx1⟩ ⟨hp0, hp1⟩ ⟨#[]⟩ (by show 0 ≤ 1000; omega) W)
  have e0 : bl ⟨#[]⟩ = [] := rfl
  rw [e0] at HBy
  have HC := Lib.hid (rd_cut r x p ⟨hx0, hx1⟩ ⟨hp0, hp1⟩)
  have hwf : ∀ z ∈ bytesM r x p [], (Lit.int .u8 z).wf = true := by
    intro z hz
    unfold bytesM at hz
    rw [List.append_nil] at hz
    exact nums_wf (heads_bd ⟨hx0, hx1⟩ ⟨hp0, hp1⟩) z hz
  have hlen : (bytesM r x p []).length ≤ 24 ∧ 16 ≤ (bytesM r x p []).length := by
    unfold bytesM
    rw [List.length_append, nums_len]
    cases r <;> simp [heads]
  have HWF := Lib.hid hwf
  clear hwf e0
  generalize bytesM r x p [] = ys at *
  obtain ⟨k, hk, ha⟩ := around_nat cut ys.length (by omega) w1
  have HA := Lib.hid ha
  have HCk := Lib.hid (HC.out k hk)
  clear ha w1
  simp only [MV.val, MV.cells]
  go_enter Tryd.func4, Tryd.ntmps4
  go_wp2_with fail
  refine (HBy.out _).mono ?_
  rintro e w2 ⟨v2, rfl, hO2, hX2⟩
  obtain ⟨a2, c2, rfl, hR2, hP2⟩ := hO2.row2 HWF.out
  have hc2 := hR2.2.2.1
  have hl2 := hR2.2.1
  unfold maxLen at hc2
  have HX2 := Lib.hid (((Ext.refl w).alloc _).trans hX2)
  obtain ⟨g, o, rfl⟩ : ∃ g o, a2 = some ⟨g, o, none⟩ := by
    rcases hR2.2.2.2.2 with h0 | ⟨g, o, h0, _⟩
    · omega
    · exact ⟨g, o, h0⟩
  have HRd := Lib.hid (readM_any (some ⟨g, o, none⟩) k c2 (ys.take k) (by omega) w2 (hR2.head (by omega)) (.inr ⟨g, o, rfl⟩))
  have HQ := Lib.hid (show ((k / 4 * 4 : Nat) : Int) = (k : Int) / 4 * 4 by omega)
  generalize hrd : rdAll (ys.take k) = R at *
  obtain ⟨rb, rx, rp, rk, rf⟩ := R
  have hrf : rf = some (3, ((k / 4 * 4 : Nat) : Int)) := HCk.out
  subst hrf
  clear hO2 hX2 hR2 hP2 HC HCk hrd HBy
  go_wp2_with fail
  refine (HA.out _).mono ?_
  rintro e wb ⟨rfl, rfl⟩
  go_wp2_with fail
  refine HRd.out.mono ?_
  rintro e w3 ⟨⟨gf, rfl, hgf⟩, hX3⟩
  rw [HQ.out] at hgf
  have HGF := Lib.hid hgf
  have HX3 := Lib.hid (HX2.out.trans hX3)
  clear hgf hX3 HRd
  have heq := run_eqM ⟨false, 0, 0, ⟨#[]⟩⟩ ⟨false, 0, 0, ⟨#[]⟩⟩
  rw [show eqM ⟨false, 0, 0, ⟨#[]⟩⟩ ⟨false, 0, 0, ⟨#[]⟩⟩ = true by simp [eqM]] at heq
  simp only [MV.val, MV.cells] at heq
  go_wp2_with fail
  refine (as_any false 0 0 none 0 0 [] _ ⟨rfl, by omega, by unfold maxLen; omega, by simp, .inl rfl⟩).mono ?_
  rintro e w4 ⟨rfl, hX4⟩
  have hgf4 := hX4.heap (((Ext.refl w3).alloc _).heap HGF.out)
  have HX4 := Lib.hid (HX3.out.trans (((Ext.refl w3).alloc _).trans hX4))
  have HG4 := Lib.hid hgf4
  have es : strOfNums [] = ⟨#[]⟩ := rfl
  rw [es]
  clear hX4 hgf4 es
  go_wp2_with fail
  refine (number_fault gf 3 _ _ HG4.out).mono ?_
  rintro e w5 ⟨rfl, rfl⟩
  go_wp2_with fail
  refine (place_fault gf 3 _ _ HG4.out).mono ?_
  rintro e w6 ⟨rfl, rfl⟩
  go_wp2_with fail
  refine (lives_any _).mono ?_
  rintro e w7 ⟨rfl, hX7⟩
  go_wp2_with fail
  go_ret
  exact ⟨rfl, HX4.out.trans hX7⟩
end Go.Proofs.YtcnbgcoklbmdaaaDoor
