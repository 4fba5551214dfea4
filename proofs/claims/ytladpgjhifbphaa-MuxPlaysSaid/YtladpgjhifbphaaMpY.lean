/- The walk of the law MuxPlays. -/
import Derived.Test.YtladpgjhifbphaaMpX
import Derived.Deep.CutBlock
namespace Go.Proofs.Ytladpgjhifbphaa
open Go.ChangeShapes Go.WideShapes Go.ChangeAt Go.RowKit

theorem delC_none : ∀ (l : List MC) (x : Int), lookC l x = none → delC l x = l
  | [], _, _ => rfl
  | c :: l, x, h => by
    unfold lookC at h
    by_cases hk : c.k = x
    · rw [if_pos hk] at h; cases h
    · rw [if_neg hk] at h
      simp [delC, hk, delC_none l x h]
theorem live_eq {ks y5 y6 : List Int} (p5 : y5.Perm ks) (o5 : Rises y5) (p6 : y6.Perm ks) (o6 : y6.Pairwise (· ≤ ·)) : y5 = y6 :=
  List.Perm.eq_of_pairwise (fun _ _ _ _ h1 h2 => Int.le_antisymm h1 h2) o5.pair o6 (p5.trans p6.symm)

set_option maxRecDepth 100000 in
set_option maxHeartbeats 16000000 in
theorem muxPlays_walk (w : World) (first0 : Int) (w0 : (Lit.int .u32 first0).wf = true) (near : Bool) (most : Int) (w2 : (Lit.int .i64 most).wf = true) (la : Option Addr) (len cap : Nat) (B : Nat → OV) (w3 : IsOs w la len cap B) :
    Calls Try.prog 8 #[.int .u32 first0, .bool near, .int .i64 most, .slice la len cap] w fun r w' => r = .returned (.bool true) ∧ Ext w w' := by
  obtain ⟨n, hn, ha⟩ := around_nat most 5 (by omega) w2
  have HA := Lib.hid ha
  have W1 := Lib.hid w3
  have hf : 0 ≤ first0 ∧ first0 ≤ 4294967295 := by simpa [Lit.wf, IntKind.min, IntKind.max, IntKind.signed, IntKind.bits] using w0
  obtain ⟨hf0, hf1⟩ := hf
  clear ha w0 w2 w3
  go_enter Try.func8, Try.ntmps8
  go_upto_if 30 with (fail)
  go_cut [0] (fun s0 wx => (∃ nx : Int, 0 ≤ nx ∧ nx < 4294967296 ∧ s0 = .int .u32 nx) ∧ w = wx)
  case first =>
    cases near
    · go_wp2_with fail
      go_meet
      exact ⟨⟨_, hf0, by omega, rfl⟩, rfl⟩
    · have he := Int.emod_nonneg first0 (show (8 : Int) ≠ 0 by omega)
      have he2 := Int.emod_lt_of_pos first0 (show (0 : Int) < 8 by omega)
      go_wp2_with fail
      go_meet
      exact ⟨⟨_, by omega, by omega, rfl⟩, rfl⟩
  case rest =>
    obtain ⟨⟨first, hg0, hg1, rfl⟩, rfl⟩ := hcut
    clear hf0 hf1
    go_wp2_with fail
    refine (HA.out _).mono ?_
    rintro r wb ⟨rfl, rfl⟩
    go_wp2_with fail
    refine (new_yes first (1 + (n : Int)) _ (by omega) (by omega)).mono ?_
    rintro r wa ⟨rfl, hma, hxa⟩
    obtain ⟨b8, hb8⟩ : ∃ b8, b8 = wa.heap.size := ⟨_, rfl⟩
    have hb8l : w.heap.size + 1 < b8 := by rw [hb8]; exact lt_of_heap hma.ptr
    obtain ⟨N, hN⟩ : ∃ N : Nat, N = 1 + n := ⟨_, rfl⟩
    have hNi : (1 + (n : Int)) = (N : Int) := by omega
    rw [hNi] at hma ⊢
    have M0 := Lib.hid (show PlayW w N b8 0 (.slice none 0 0) (wa.alloc (.cells #[.int .u32 first, .int .i64 N, .slice none 0 0] 54)) from
      ⟨first, [], [], .slice none 0 0, ⟨hma.ext ((Ext.refl wa).alloc _), by rw [hb8]; exact heap_alloc_new wa _, CRow.nil _ _, URow.nil _ _, hxa.alloc _, hb8l⟩, ⟨hg0, hg1, by simp, by simp, by simp⟩⟩)
    have hN6 : N ≤ 5 := by omega
    clear hma hxa hN hNi HA hg0 hg1
    go_wp2_with fail
    rw [← hb8]
    clear hb8
    go_loopw [13, 14] (fun v13 v14 wr => ∃ i : Nat, i ≤ 24 ∧ i ≤ len ∧ v14 = .int .i64 i ∧ PlayW w N b8 i v13 wr) (fun _ v14 _ => 24 - (intOf v14).toNat)
    case atStart => exact ⟨0, by omega, by omega, rfl, M0.out⟩
    case round =>
      obtain ⟨i, hi24, hil, rfl, nx, l, hs, v8, hS, hI⟩ := hrel
      have HS := Lib.hid hS
      have HI := Lib.hid hI
      have hcl := W1.out.1
      have hcm := W1.out.2.1
      unfold maxLen at hcm
      clear hS hI M0
      by_cases hlt : i < len ∧ i < 24
      · have hd1 : decide ((i : Int) < (len : Int)) = true := by simp; omega
        have hd2 : decide ((i : Int) < 24) = true := by simp; omega
        have hi0 : (0 : Int) ≤ (i : Int) := by omega
        have hi1 : (i : Int) < (len : Int) := by omega
        obtain ⟨hok, g, o, rfl, q0, q1, q2, q3⟩ := (W1.out.ext HS.out.ext).2.2 i hlt.1
        have hgl := World.block_lt_of_cell? _ _ q0
        simp only at hgl
        obtain ⟨y, hy, hxy⟩ := xid_any wr _ _ hs HS.out.all (by have := HI.out.many; omega) HI.out.all (B i) hok
        have HY := Lib.hid hxy
        generalize B i = ov at *
        obtain ⟨od, on, op, ox⟩ := ov
        simp only at q0 q1 q2 q3 HY
        obtain ⟨pr, hpr, hpa⟩ := around_nat op 3 (by omega) hok.2.2.1
        obtain ⟨d, hd9, hda⟩ := around_nat od 9 (by omega) hok.1
        have HP := Lib.hid hpa
        have HD := Lib.hid hda
        obtain ⟨hy0, hy1⟩ := hy
        clear hok hpa hda hxy
        go_wp2_with fail
        refine (HP.out _).mono ?_
        rintro r w2 ⟨rfl, rfl⟩
        go_wp2_with fail
        refine (HY.out _ ((Ext.refl wr).alloc _)).mono ?_
        rintro r wo ⟨rfl, hx⟩
        have hb15 := hx.heap (heap_alloc_new wr (.cells #[.int .i64 od, .int .i64 on, .int .i64 op, .int .u32 ox] 58))
        have x0 := cell_of hb15 0
        have lb := lt_of_heap hb15
        have R0 := Lib.hid (HS.out.grow (((Ext.refl wr).alloc _).trans hx))
        clear hx hb15 q0 q1 q2 q3 HS HY HP
        go_wp2_with fail
        refine (HD.out _).mono ?_
        rintro r w2 ⟨rfl, rfl⟩
        go_upto_block 2 with (fail)
        go_cut [13] (fun s13 wx => PlayW w N b8 (i + 1) s13 wx)
        case first =>
          obtain ⟨a8, c8, rfl, -⟩ := R0.out.row.form
          obtain ⟨a9, c9, rfl, h9c, h9m, -⟩ := R0.out.all.form
          obtain ⟨m8, hm8⟩ : ∃ m8, m8 = l.length := ⟨_, rfl⟩
          obtain ⟨m9, hm9⟩ : ∃ m9, m9 = hs.length := ⟨_, rfl⟩
          rw [← hm8, ← hm9] at R0
          rw [← hm9] at h9c ⊢
          have HM8 := Lib.hid hm8
          have HM9 := Lib.hid hm9
          obtain ⟨s0, s1, s2, s3, s4, s5⟩ := blk3 R0.out.box
          have ls := lt_of_heap R0.out.box
          have hl5 : l.length ≤ 5 := by have := HI.out.len; omega
          have hb2 : w.heap.size + 2 ≤ wo.heap.size := by have := R0.out.far; omega
          unfold maxLen at h9m
          clear hm8 hm9 x0 lb HD
          by_cases h8 : d = 8
          · subst h8
            obtain ⟨hmu, hfin⟩ := R0.out.seek y
            have HMu := Lib.hid hmu
            have HFin := Lib.hid hfin
            clear hmu hfin
            go_wp2_with fail
            refine (seek_any _ _ _ _ _ y _ HMu.out).mono ?_
            rintro r w5 ⟨rfl, hm5, hu5⟩
            have HN := Lib.hid (HFin.out _ hm5 hu5)
            have HNI := Lib.hid (show PlayI N (i + 1) y l hs from ⟨hy0, hy1, HI.out.len, by have := HI.out.many; omega, HI.out.all⟩)
            clear hm5 hu5
            go_wp2_with fail
            go_meet
            exact ⟨_, _, _, _, HN.out, HNI.out⟩
          · by_cases h456 : d = 4 ∨ d = 5 ∨ d = 6
            · have h45 : d = 4 ∨ d = 5 ∨ d = 6 := h456
              clear h8 h456
              rcases firstK (isK y) l with ⟨k, hk, hh, hb⟩ | hno
              · obtain ⟨hLk, hDl⟩ := look_at l y k hk hh hb
                by_cases hp : l[k].p = pr
                · have HMt := Lib.hid (fun W (hW : MuxW W (w.heap.size + 1) w.heap.size nx N l) => (show Calls Try.prog 12 #[.pointer (some ⟨w.heap.size + 1, 0, none⟩), .int .u32 y, .int .u32 pr] W fun r w' => r = .returned (.tuple #[.int .i64 l[k].x, .int .i64 0]) ∧ MuxW w' (w.heap.size + 1) w.heap.size nx N (l.eraseIdx k) ∧ Upd [w.heap.size + 1, w.heap.size] W w' from by
                    have := match_ok _ _ _ _ _ y l[k] W hW hLk
                    rw [hp, hDl] at this
                    exact this))
                  have HRf := Lib.hid (refMatch_ok wo _ nx N _ l R0.out.row (by omega) y pr k hk hh hb hp _ rfl)
                  have HLe := Lib.hid (show (l.eraseIdx k).length ≤ N by rw [List.length_eraseIdx]; split <;> (have := HI.out.len; omega))
                  generalize l[k].x = xx at *
                  clear hLk hDl hp hh hb
                  rcases h45 with rfl | rfl | rfl
                  all_goals
                    go_wp2_with fail
                    refine HRf.out.mono ?_
                    rintro r w3 ⟨v3, rfl, hr3, hx3⟩
                    obtain ⟨a3, c3, rfl, -⟩ := hr3.form
                    obtain ⟨m3, hm3⟩ : ∃ m3, m3 = (l.eraseIdx k).length := ⟨_, rfl⟩
                    rw [← hm3] at hr3 ⊢
                    obtain ⟨s0, s1, s2, s3, s4, s5⟩ := blk3 (hx3.heap R0.out.box)
                    have ls := lt_of_heap (hx3.heap R0.out.box)
                    obtain ⟨hmu, hfin⟩ := R0.out.two (nx' := nx) hx3 hr3 hb2 ((Ext.refl _).alloc (.cells #[.int .u32 nx, .int .i64 N, .slice a3 m3 c3] 54))
                    have HMu := Lib.hid hmu
                    have HFin := Lib.hid hfin
                    clear hmu hfin hx3 hr3 hm3
                    go_wp2_with fail

                    refine (HMt.out _ HMu.out).mono ?_
                    rintro r w5 ⟨rfl, hm5, hu5⟩
                    have HN := Lib.hid (HFin.out _ hm5 hu5)
                    clear hm5 hu5

                    have HNI := Lib.hid (show PlayI N (i + 1) nx (l.eraseIdx k) hs from ⟨HI.out.lo, HI.out.hi, HLe.out, by have := HI.out.many; omega, HI.out.all⟩)
                    go_wp2_with fail
                    go_meet
                    exact ⟨_, _, _, _, HN.out, HNI.out⟩

                · have HMt := Lib.hid (fun W (hW : MuxW W (w.heap.size + 1) w.heap.size nx N l) => match_wrong _ _ _ _ _ y pr l[k] W hW hLk hp)
                  have HRf := Lib.hid (refMatch_wrong wo _ nx N _ l R0.out.row (by omega) y pr k hk hh hb hp)
                  clear hLk hDl hp hh hb
                  rcases h45 with rfl | rfl | rfl
                  all_goals
                    go_wp2_with fail
                    refine HRf.out.mono ?_
                    rintro r w3 ⟨rfl, hx3⟩
                    obtain ⟨s0, s1, s2, s3, s4, s5⟩ := blk3 (hx3.heap R0.out.box)
                    have ls := lt_of_heap (hx3.heap R0.out.box)
                    obtain ⟨hmu, hfin⟩ := R0.out.two (nx' := nx) hx3 (R0.out.row.ext hx3) (Nat.le_refl _) ((Ext.refl _).alloc (.cells #[.int .u32 nx, .int .i64 N, .slice a8 m8 c8] 54))
                    have HMu := Lib.hid hmu
                    have HFin := Lib.hid hfin
                    clear hmu hfin hx3
                    go_wp2_with fail

                    refine (HMt.out _ HMu.out).mono ?_
                    rintro r w5 ⟨rfl, hx5⟩
                    have HN := Lib.hid (HFin.out _ (HMu.out.ext hx5) (hx5.upd _))
                    clear hx5

                    have HNI := Lib.hid (show PlayI N (i + 1) nx l hs from ⟨HI.out.lo, HI.out.hi, HI.out.len, by have := HI.out.many; omega, HI.out.all⟩)
                    go_wp2_with fail
                    go_meet
                    exact ⟨_, _, _, _, HN.out, HNI.out⟩

              · have hLk := look_not l y hno
                have HMt := Lib.hid (fun W (hW : MuxW W (w.heap.size + 1) w.heap.size nx N l) => match_none _ _ _ _ _ y pr W hW hLk)
                have HRf := Lib.hid (refMatch_none wo _ nx N _ l R0.out.row (by omega) y pr hno)
                clear hLk hno
                rcases h45 with rfl | rfl | rfl
                all_goals
                  go_wp2_with fail
                  refine HRf.out.mono ?_
                  rintro r w3 ⟨rfl, hx3⟩
                  obtain ⟨s0, s1, s2, s3, s4, s5⟩ := blk3 (hx3.heap R0.out.box)
                  have ls := lt_of_heap (hx3.heap R0.out.box)
                  obtain ⟨hmu, hfin⟩ := R0.out.two (nx' := nx) hx3 (R0.out.row.ext hx3) (Nat.le_refl _) ((Ext.refl _).alloc (.cells #[.int .u32 nx, .int .i64 N, .slice a8 m8 c8] 54))
                  have HMu := Lib.hid hmu
                  have HFin := Lib.hid hfin
                  clear hmu hfin hx3
                  go_wp2_with fail

                  refine (HMt.out _ HMu.out).mono ?_
                  rintro r w5 ⟨rfl, hx5⟩
                  have HN := Lib.hid (HFin.out _ (HMu.out.ext hx5) (hx5.upd _))
                  clear hx5

                  have HNI := Lib.hid (show PlayI N (i + 1) nx l hs from ⟨HI.out.lo, HI.out.hi, HI.out.len, by have := HI.out.many; omega, HI.out.all⟩)
                  go_wp2_with fail
                  go_meet
                  exact ⟨_, _, _, _, HN.out, HNI.out⟩
            · by_cases h7 : d = 7
              · subst h7
                clear h8 h456
                rcases firstK (isK y) l with ⟨k, hk, hh, hb⟩ | hno
                · obtain ⟨hLk, hDl⟩ := look_at l y k hk hh hb
                  have HMt := Lib.hid (fun W (hW : MuxW W (w.heap.size + 1) w.heap.size nx N l) => (show Calls Try.prog 26 #[.pointer (some ⟨w.heap.size + 1, 0, none⟩), .int .u32 y] W fun r w' => r = .returned (.bool true) ∧ MuxW w' (w.heap.size + 1) w.heap.size nx N (l.eraseIdx k) ∧ Upd [w.heap.size + 1, w.heap.size] W w' from by
                    have := drop_any _ _ _ _ _ y W hW
                    rw [hLk, hDl] at this
                    exact this))
                  have HRf := Lib.hid (refDrop_ok wo _ nx N _ l R0.out.row (by omega) y k hk hh hb)
                  have HLe := Lib.hid (show (l.eraseIdx k).length ≤ N by rw [List.length_eraseIdx]; split <;> (have := HI.out.len; omega))
                  clear hLk hDl hh hb
                  go_wp2_with fail
                  refine HRf.out.mono ?_
                  rintro r w3 ⟨v3, rfl, hr3, hx3⟩
                  obtain ⟨a3, c3, rfl, -⟩ := hr3.form
                  obtain ⟨m3, hm3⟩ : ∃ m3, m3 = (l.eraseIdx k).length := ⟨_, rfl⟩
                  rw [← hm3] at hr3 ⊢
                  obtain ⟨s0, s1, s2, s3, s4, s5⟩ := blk3 (hx3.heap R0.out.box)
                  have ls := lt_of_heap (hx3.heap R0.out.box)
                  obtain ⟨hmu, hfin⟩ := R0.out.two (nx' := nx) hx3 hr3 hb2 ((Ext.refl _).alloc (.cells #[.int .u32 nx, .int .i64 N, .slice a3 m3 c3] 54))
                  have HMu := Lib.hid hmu
                  have HFin := Lib.hid hfin
                  clear hmu hfin hx3 hr3 hm3
                  go_wp2_with fail

                  refine (HMt.out _ HMu.out).mono ?_
                  rintro r w5 ⟨rfl, hm5, hu5⟩
                  have HN := Lib.hid (HFin.out _ hm5 hu5)
                  clear hm5 hu5

                  have HNI := Lib.hid (show PlayI N (i + 1) nx (l.eraseIdx k) hs from ⟨HI.out.lo, HI.out.hi, HLe.out, by have := HI.out.many; omega, HI.out.all⟩)
                  go_wp2_with fail
                  go_meet
                  exact ⟨_, _, _, _, HN.out, HNI.out⟩

                · have hLk := look_not l y hno
                  have HMt := Lib.hid (fun W (hW : MuxW W (w.heap.size + 1) w.heap.size nx N l) => (show Calls Try.prog 26 #[.pointer (some ⟨w.heap.size + 1, 0, none⟩), .int .u32 y] W fun r w' => r = .returned (.bool false) ∧ MuxW w' (w.heap.size + 1) w.heap.size nx N l ∧ Upd [w.heap.size + 1, w.heap.size] W w' from by
                    have := drop_any _ _ _ _ _ y W hW
                    rw [hLk, delC_none l y hLk] at this
                    exact this))
                  have HRf := Lib.hid (refDrop_none wo _ nx N _ l R0.out.row (by omega) y hno)
                  clear hLk hno
                  go_wp2_with fail
                  refine HRf.out.mono ?_
                  rintro r w3 ⟨rfl, hx3⟩
                  obtain ⟨s0, s1, s2, s3, s4, s5⟩ := blk3 (hx3.heap R0.out.box)
                  have ls := lt_of_heap (hx3.heap R0.out.box)
                  obtain ⟨hmu, hfin⟩ := R0.out.two (nx' := nx) hx3 (R0.out.row.ext hx3) (Nat.le_refl _) ((Ext.refl _).alloc (.cells #[.int .u32 nx, .int .i64 N, .slice a8 m8 c8] 54))
                  have HMu := Lib.hid hmu
                  have HFin := Lib.hid hfin
                  clear hmu hfin hx3
                  go_wp2_with fail

                  refine (HMt.out _ HMu.out).mono ?_
                  rintro r w5 ⟨rfl, hm5, hu5⟩
                  have HN := Lib.hid (HFin.out _ hm5 hu5)
                  clear hm5 hu5

                  have HNI := Lib.hid (show PlayI N (i + 1) nx l hs from ⟨HI.out.lo, HI.out.hi, HI.out.len, by have := HI.out.many; omega, HI.out.all⟩)
                  go_wp2_with fail
                  go_meet
                  exact ⟨_, _, _, _, HN.out, HNI.out⟩
              · have e4 : ((d : Int) == 4) = false := by simp; omega
                have e5 : ((d : Int) == 5) = false := by simp; omega
                have e6 : ((d : Int) == 6) = false := by simp; omega
                have e7 : ((d : Int) == 7) = false := by simp; omega
                have e8 : ((d : Int) == 8) = false := by simp; omega
                have hiw : IntKind.i64.wrap ((i : Int) + 100) = (i : Int) + 100 := IntWalk.i64_in _ (by omega)
                clear h7 h8 h456
                by_cases hfl : N ≤ l.length
                · have HMt := Lib.hid (fun W (hW : MuxW W (w.heap.size + 1) w.heap.size nx N l) => call_full _ _ _ _ _ pr ((i : Int) + 100) W hW (show (N : Int) ≤ (l.length : Nat) by omega))
                  have HRf := Lib.hid (refCall_full wo _ nx N _ l R0.out.row pr ((i : Int) + 100) (show (N : Int) ≤ (l.length : Nat) by omega))
                  clear hfl
                  go_wp2_with fail
                  refine HRf.out.mono ?_
                  rintro r w3 ⟨rfl, hx3⟩
                  obtain ⟨s0, s1, s2, s3, s4, s5⟩ := blk3 (hx3.heap R0.out.box)
                  have ls := lt_of_heap (hx3.heap R0.out.box)
                  obtain ⟨hmu, hfin⟩ := R0.out.two (nx' := nx) hx3 (R0.out.row.ext hx3) (Nat.le_refl _) ((Ext.refl _).alloc (.cells #[.int .u32 nx, .int .i64 N, .slice a8 m8 c8] 54))
                  have HMu := Lib.hid hmu
                  have HFin := Lib.hid hfin
                  clear hmu hfin hx3
                  go_wp2_with fail

                  refine (HMt.out _ HMu.out).mono ?_
                  rintro r w5 ⟨rfl, hx5⟩
                  have HN := Lib.hid (HFin.out _ (HMu.out.ext hx5) (hx5.upd _))
                  clear hx5

                  have hb5 : w.heap.size + 2 ≤ w5.heap.size := by have := lt_of_heap HN.out.box; have := HN.out.far; omega
                  obtain ⟨v9', w7, r1, r2, r3⟩ := URow.push HN.out.all (by rw [← HM9.out]; have := HI.out.many; rw [← HM9.out] at this; omega) hb5 (0) 29
                  have HHn := Lib.hid (show (hs ++ [(0 : Int)]).length = m9 + 1 by rw [List.length_append, ← HM9.out]; rfl)
                  have R7 := Lib.hid (HN.out.reall r2 r3)
                  obtain ⟨a9', c9', rfl, -⟩ := r2.form
                  rw [HHn.out] at r1 R7
                  have RN := Lib.hid r1
                  have HNI := Lib.hid (show PlayI N (i + 1) nx l (hs ++ [(0 : Int)]) from ⟨HI.out.lo, HI.out.hi, HI.out.len, by rw [HHn.out]; have := HI.out.many; rw [← HM9.out] at this; omega, by
                    intro q hq
                    rw [List.mem_append, List.mem_singleton] at hq
                    rcases hq with hq | rfl
                    · exact HI.out.all q hq
                    · omega⟩)
                  clear r1 r2 r3 s0 s1 s2 s3 s4 s5
                  go_wp2_with (at_builtin; refine wpList_append_run rfl (.tmp 102) (.tmp 104) _ rfl _ _ _ rfl rfl RN.out ?_)
                  go_meet
                  exact ⟨_, _, _, _, R7.out, HNI.out⟩

                · obtain ⟨j, hj, hF⟩ := exists_free l nx (by omega)
                  have HMt := Lib.hid (fun W (hW : MuxW W (w.heap.size + 1) w.heap.size nx N l) => call_room _ _ _ _ _ pr ((i : Int) + 100) W hW (show ((l.length : Nat) : Int) < N by omega) HI.out.lo HI.out.hi j hF (by omega))
                  have HRf := Lib.hid (refCall_room wo _ nx N _ l R0.out.row (by omega) pr ((i : Int) + 100) (show ((l.length : Nat) : Int) < N by omega) HI.out.lo HI.out.hi j hF (by omega))
                  have HLe := Lib.hid (show (l ++ [(⟨(nx + j) % 4294967296, pr, (i : Int) + 100⟩ : MC)]).length ≤ N by rw [List.length_append]; simp; omega)
                  obtain ⟨l2, hl2⟩ : ∃ l2, l2 = l ++ [(⟨(nx + j) % 4294967296, pr, (i : Int) + 100⟩ : MC)] := ⟨_, rfl⟩
                  obtain ⟨x2, hx2⟩ : ∃ x2, x2 = (nx + j) % 4294967296 := ⟨_, rfl⟩
                  obtain ⟨n2, hn2⟩ : ∃ n2, n2 = (nx + j + 1) % 4294967296 := ⟨_, rfl⟩
                  rw [← hl2, ← hx2, ← hn2] at HMt HRf
                  rw [← hl2] at HLe
                  have hxb : 0 ≤ x2 ∧ x2 < 4294967296 := by omega
                  have hnb : 0 ≤ n2 ∧ n2 < 4294967296 := by omega
                  clear hfl hF hl2 hx2 hn2
                  go_wp2_with fail
                  refine HRf.out.mono ?_
                  rintro r w3 ⟨v3, rfl, hr3, hx3⟩
                  obtain ⟨a3, c3, rfl, -⟩ := hr3.form
                  obtain ⟨m3, hm3⟩ : ∃ m3, m3 = (l2).length := ⟨_, rfl⟩
                  rw [← hm3] at hr3 ⊢
                  obtain ⟨s0, s1, s2, s3, s4, s5⟩ := blk3 (hx3.heap R0.out.box)
                  have ls := lt_of_heap (hx3.heap R0.out.box)
                  obtain ⟨hmu, hfin⟩ := R0.out.two (nx' := n2) hx3 hr3 hb2 ((Ext.refl _).alloc (.cells #[.int .u32 n2, .int .i64 N, .slice a3 m3 c3] 54))
                  have HMu := Lib.hid hmu
                  have HFin := Lib.hid hfin
                  clear hmu hfin hx3 hr3 hm3
                  go_wp2_with fail

                  refine (HMt.out _ HMu.out).mono ?_
                  rintro r w5 ⟨rfl, hm5, hu5⟩
                  have HN := Lib.hid (HFin.out _ hm5 hu5)
                  clear hm5 hu5

                  have hb5 : w.heap.size + 2 ≤ w5.heap.size := by have := lt_of_heap HN.out.box; have := HN.out.far; omega
                  obtain ⟨v9', w7, r1, r2, r3⟩ := URow.push HN.out.all (by rw [← HM9.out]; have := HI.out.many; rw [← HM9.out] at this; omega) hb5 (x2) 29
                  have HHn := Lib.hid (show (hs ++ [(x2 : Int)]).length = m9 + 1 by rw [List.length_append, ← HM9.out]; rfl)
                  have R7 := Lib.hid (HN.out.reall r2 r3)
                  obtain ⟨a9', c9', rfl, -⟩ := r2.form
                  rw [HHn.out] at r1 R7
                  have RN := Lib.hid r1
                  have HNI := Lib.hid (show PlayI N (i + 1) n2 l2 (hs ++ [(x2 : Int)]) from ⟨hnb.1, hnb.2, HLe.out, by rw [HHn.out]; have := HI.out.many; rw [← HM9.out] at this; omega, by
                    intro q hq
                    rw [List.mem_append, List.mem_singleton] at hq
                    rcases hq with hq | rfl
                    · exact HI.out.all q hq
                    · omega⟩)
                  clear r1 r2 r3 s0 s1 s2 s3 s4 s5
                  go_wp2_with (at_builtin; refine wpList_append_run rfl (.tmp 102) (.tmp 104) _ rfl _ _ _ rfl rfl RN.out ?_)
                  go_meet
                  exact ⟨_, _, _, _, R7.out, HNI.out⟩
        case rest =>
          obtain ⟨nx', l', hs', v8', hR, hI'⟩ := hcut
          have RL := Lib.hid hR
          have IL := Lib.hid hI'
          obtain ⟨a8, c8, rfl, -⟩ := hR.row.form
          obtain ⟨m8, hm8⟩ : ∃ m8, m8 = l'.length := ⟨_, rfl⟩
          obtain ⟨z, hz, hzf⟩ := find_any _ _ nx' N _ l' hR.row (by have := hI'.len; omega) y
          have HLv := Lib.hid (fun W (hW : Ext wc W) => live_any _ _ _ _ _ W (hR.mux.ext hW) (by have := hI'.len; omega))
          have HRl := Lib.hid (fun W (hW : Ext wc W) => refLive W _ nx' N _ l' (hR.row.ext hW) (by have := hI'.len; omega))
          have HLn := Lib.hid (fun W (hW : Ext wc W) => len_any _ _ _ _ _ W (hR.mux.ext hW))
          have HHs := Lib.hid (fun W (hW : Ext wc W) => has_any _ _ _ _ _ y W (hR.mux.ext hW))
          have HFd := Lib.hid hzf
          have HL5 := Lib.hid (show l'.length ≤ 5 by have := hI'.len; omega)
          rw [← hm8] at RL HRl HLn HFd
          obtain ⟨s0, s1, s2, -, -, -⟩ := blk3 RL.out.box
          have ls := lt_of_heap RL.out.box
          clear hR hI' hzf hm8 R0 HI HD
          cases hq : (lookC l' y).isSome
          all_goals
            rw [hq] at hz HHs
            have hz0 : decide ((0 : Int) ≤ z) = _ := hz
            clear hz hq
            go_wp2_with fail
            go_region_held3 (fun w' => w'.cell? ⟨b8, 0, none⟩ = some (.int .u32 nx') ∧ w'.cell? ⟨b8, 1, none⟩ = some (.int .i64 N) ∧ w'.cell? ⟨b8, 2, none⟩ = some (.slice a8 m8 c8) ∧ Ext wc w') (first | exact ⟨s0, s1, s2, drew_ext wc⟩ | exact keep4e (by assumption) hx10 | exact keep4e (by assumption) hx9 | exact keep4e (by assumption) hx7 | exact keep4e (by assumption) hx6 | exact keep4e (by assumption) hx5 | assumption) (first | (go_at_call 21; refine (HLv.out _ (And.right (And.right (And.right (by assumption))))).mono ?_; rintro e w5 ⟨v5, y5, rfl, p5, o5, r5, hx5⟩) | (go_at_call 22; refine (HRl.out _ (And.right (And.right (And.right (by assumption))))).mono ?_; rintro e w6 ⟨v6, y6, rfl, p6, o6, r6, hx6⟩) | (go_at_call 20; refine (same_yes _ _ _ v5 v6 y5 (r5.ext hx6) (by rw [live_eq p5 o5 p6 o6]; exact r6) (by rw [p5.length_eq, List.length_map]; have := HL5.out; omega)).mono ?_; rintro e w7 ⟨rfl, hx7⟩) | (go_at_call 17; refine (HLn.out _ (And.right (And.right (And.right (by assumption))))).mono ?_; rintro e w8 ⟨rfl, rfl⟩) | (go_at_call 19; refine (HHs.out _ (And.right (And.right (And.right (by assumption))))).mono ?_; rintro e w9 ⟨rfl, hx9⟩) | (go_at_call 28; refine (HFd.out _ (And.right (And.right (And.right (by assumption))))).mono ?_; rintro e w10 ⟨rfl, hx10⟩))
            have HE := Lib.hid (show Ext wc w10 from And.right (And.right (And.right (by assumption))))
            clear hx5 hx6 hx7 hx9 hx10 p5 o5 r5 p6 o6 r6 HLv HRl HLn HHs HFd s0 s1 s2
            go_wp2_with fail
            go_roundw
            case rel => exact ⟨i + 1, by omega, by omega, by go_num, _, _, _, _, RL.out.grow HE.out, IL.out⟩
            case measure => simp [intOf]; omega
      · have hall : (decide (i < len) = true ∧ decide ((i : Int) < 24) = false) ∨ decide (i < len) = false := by
          by_cases h5 : len ≤ i
          · right; simp; omega
          · left; exact ⟨by simp; omega, by simp; omega⟩
        rcases hall with ⟨hd, hd2⟩ | hd
        all_goals
          go_wp2_with fail
          refine (lives_any _).mono ?_
          rintro r w9 ⟨rfl, hx9⟩
          go_wp2_with fail
          go_ret
          exact ⟨rfl, HS.out.ext.trans hx9⟩
end Go.Proofs.Ytladpgjhifbphaa
