/- The walk of the law FidsPlays. -/
import Derived.Test.YtekdoannpkifaaaFkM
import Derived.Deep.CutBlock
namespace Go.Proofs.Ytekdoannpkifaaa
open Go.ChangeShapes Go.WideShapes Go.ChangeAt Go.RowKit

/-- The twelve cells of a block. -/
theorem blk12 {w : World} {g : Nat} {d n : Int} {x : FV} {t : TypeId} (h : w.heap[g]? = some (.cells #[.int .i64 d, .int .i64 n, .int .i64 x.h1, .int .i64 x.h2, .int .i64 x.u1, .int .i64 x.u2, .string x.name, .bool x.dir, .bool x.opn, .int .i64 x.mode, .int .i64 x.off, .int .i64 x.at_] t (0, 0))) :
    w.cell? ⟨g, 0, none⟩ = some (.int .i64 d) ∧ w.cell? ⟨g, 1, none⟩ = some (.int .i64 n) ∧ w.cell? ⟨g, 2, none⟩ = some (.int .i64 x.h1) ∧ w.cell? ⟨g, 3, none⟩ = some (.int .i64 x.h2) ∧ w.cell? ⟨g, 4, none⟩ = some (.int .i64 x.u1) ∧ w.cell? ⟨g, 5, none⟩ = some (.int .i64 x.u2) ∧
    w.cell? ⟨g, 6, none⟩ = some (.string x.name) ∧ w.cell? ⟨g, 7, none⟩ = some (.bool x.dir) ∧ w.cell? ⟨g, 8, none⟩ = some (.bool x.opn) ∧ w.cell? ⟨g, 9, none⟩ = some (.int .i64 x.mode) ∧ w.cell? ⟨g, 10, none⟩ = some (.int .i64 x.off) ∧ w.cell? ⟨g, 11, none⟩ = some (.int .i64 x.at_) :=
  ⟨cell_of h 0, cell_of h 1, cell_of h 2, cell_of h 3, cell_of h 4, cell_of h 5, cell_of h 6, cell_of h 7, cell_of h 8, cell_of h 9, cell_of h 10, cell_of h 11⟩
/-- The play, between two things done. -/
def FPw (w : World) (N : Nat) (b8 : Nat) (W : World) : Prop := ∃ l L v8, FPlay w N b8 W l L v8 ∧ l.length ≤ N

set_option maxRecDepth 100000 in
set_option maxHeartbeats 16000000 in
theorem fidsPlays_walk (w : World) (most : Int) (w0 : (Lit.int .i64 most).wf = true) (la : Option Addr) (len cap : Nat) (B : Nat → OW) (w1 : IsOs w la len cap B) :
    Calls Try.prog 7 #[.int .i64 most, .slice la len cap] w fun r w' => r = .returned (.bool true) ∧ Ext w w' := by
  obtain ⟨n, hn, ha⟩ := around_nat most 6 (by omega) w0
  have HA := Lib.hid ha
  have W1 := Lib.hid w1
  clear ha w0 w1
  go_enter Try.func7, Try.ntmps7
  go_wp2_with fail
  refine (HA.out _).mono ?_
  rintro r wb ⟨rfl, rfl⟩
  go_wp2_with fail
  refine (new_yes (1 + (n : Int)) w (by omega) (by omega)).mono ?_
  rintro r wa ⟨rfl, hma, hxa⟩
  obtain ⟨b8, hb8⟩ : ∃ b8, b8 = wa.heap.size := ⟨_, rfl⟩
  have hb8l : w.heap.size + 1 < b8 := by rw [hb8]; exact lt_of_heap hma.ptr
  obtain ⟨N, hN⟩ : ∃ N : Nat, N = 1 + n := ⟨_, rfl⟩
  have hNi : (1 + (n : Int)) = (N : Int) := by omega
  rw [hNi] at hma ⊢
  have M0 := Lib.hid (show FPlay w N b8 (wa.alloc (.cells #[.int .i64 N, .slice none 0 0] 43)) [] [] (.slice none 0 0) from
    ⟨hma.ext ((Ext.refl wa).alloc _), by rw [hb8]; exact heap_alloc_new wa _, PRow.nil _ _, Inv.nil, hxa.alloc _, hb8l⟩)
  have hN6 : N ≤ 6 := by omega
  clear hma hxa hN hNi HA
  go_wp2_with fail
  rw [← hb8]
  clear hb8
  go_loopw [9] (fun v9 wr => ∃ (i : Nat) (l L : List (Int × FV)) (v8 : Value), i ≤ 24 ∧ i ≤ len ∧ v9 = .int .i64 i ∧ FPlay w N b8 wr l L v8 ∧ l.length ≤ N) (fun v9 _ => 24 - (RowKit.intOf v9).toNat)
  case atStart => exact ⟨0, [], [], _, by omega, by omega, rfl, M0.out, by simp⟩
  case round =>
    obtain ⟨i, l, L, v8, hi24, hil, rfl, hP, hlen⟩ := hrel
    have hcl := W1.out.1
    have hcm := W1.out.2.1
    unfold maxLen at hcm
    clear M0
    have HP := Lib.hid hP
    by_cases hlt : i < len ∧ i < 24
    · have hd1 : decide ((i : Int) < (len : Int)) = true := by simp; omega
      have hd2 : decide ((i : Int) < 24) = true := by simp; omega
      have hi0 : (0 : Int) ≤ (i : Int) := by omega
      have hi1 : (i : Int) < (len : Int) := by omega
      obtain ⟨hok, g, o, rfl, hq⟩ := W1.out.2.2 i hlt.1
      generalize B i = ov at *
      obtain ⟨od, on, ox⟩ := ov
      obtain ⟨d, hd9, hda⟩ := around_nat od 9 (by omega) hok.1
      have HD := Lib.hid hda
      have q0 : wr.cell? ⟨g, o + i * 12, none⟩ = some (.int .i64 od) := hP.ext.cell (hq 0 (by omega))
      have hgl := World.block_lt_of_cell? _ _ q0
      simp only at hgl
      have q1 : wr.cell? ⟨g, o + i * 12 + 1, none⟩ = some (.int .i64 on) := hP.ext.cell (hq 1 (by omega))
      have q2 : wr.cell? ⟨g, o + i * 12 + 2, none⟩ = some (.int .i64 ox.h1) := hP.ext.cell (hq 2 (by omega))
      have q3 : wr.cell? ⟨g, o + i * 12 + 3, none⟩ = some (.int .i64 ox.h2) := hP.ext.cell (hq 3 (by omega))
      have q4 : wr.cell? ⟨g, o + i * 12 + 4, none⟩ = some (.int .i64 ox.u1) := hP.ext.cell (hq 4 (by omega))
      have q5 : wr.cell? ⟨g, o + i * 12 + 5, none⟩ = some (.int .i64 ox.u2) := hP.ext.cell (hq 5 (by omega))
      have q6 : wr.cell? ⟨g, o + i * 12 + 6, none⟩ = some (.string ox.name) := hP.ext.cell (hq 6 (by omega))
      have q7 : wr.cell? ⟨g, o + i * 12 + 7, none⟩ = some (.bool ox.dir) := hP.ext.cell (hq 7 (by omega))
      have q8 : wr.cell? ⟨g, o + i * 12 + 8, none⟩ = some (.bool ox.opn) := hP.ext.cell (hq 8 (by omega))
      have q9 : wr.cell? ⟨g, o + i * 12 + 9, none⟩ = some (.int .i64 ox.mode) := hP.ext.cell (hq 9 (by omega))
      have q10 : wr.cell? ⟨g, o + i * 12 + 10, none⟩ = some (.int .i64 ox.off) := hP.ext.cell (hq 10 (by omega))
      have q11 : wr.cell? ⟨g, o + i * 12 + 11, none⟩ = some (.int .i64 ox.at_) := hP.ext.cell (hq 11 (by omega))
      clear hok hda hq hP
      go_wp2_with fail
      refine (HD.out _).mono ?_
      rintro r w2 ⟨rfl, rfl⟩
      obtain ⟨wo, hwo⟩ : ∃ wo, wo = wr.alloc (.cells #[.int .i64 od, .int .i64 on, .int .i64 ox.h1, .int .i64 ox.h2, .int .i64 ox.u1, .int .i64 ox.u2, .string ox.name, .bool ox.dir, .bool ox.opn, .int .i64 ox.mode, .int .i64 ox.off, .int .i64 ox.at_] 52) := ⟨_, rfl⟩
      have hb := heap_alloc_new wr (.cells #[.int .i64 od, .int .i64 on, .int .i64 ox.h1, .int .i64 ox.h2, .int .i64 ox.u1, .int .i64 ox.u2, .string ox.name, .bool ox.dir, .bool ox.opn, .int .i64 ox.mode, .int .i64 ox.off, .int .i64 ox.at_] 52)
      have R0 := Lib.hid (HP.out.grow ((Ext.refl wr).alloc (.cells #[.int .i64 od, .int .i64 on, .int .i64 ox.h1, .int .i64 ox.h2, .int .i64 ox.u1, .int .i64 ox.u2, .string ox.name, .bool ox.dir, .bool ox.opn, .int .i64 ox.mode, .int .i64 ox.off, .int .i64 ox.at_] 52)))
      rw [← hwo] at hb R0 ⊢
      have HB := Lib.hid hb
      have hne : wr.heap.size ≠ b8 := by have := lt_of_heap HP.out.box; omega
      have hne' := hne.symm
      obtain ⟨p0, p1, p2, p3, p4, p5, p6, p7, p8, p9, p10, p11⟩ := blk12 hb
      have lb := lt_of_heap hb
      clear hwo hb HP q0 q1 q2 q3 q4 q5 q6 q7 q8 q9 q10 q11 hgl
      go_upto_block 2 with (fail)
      go_cut [20] (fun _ wx => FPw w N b8 wx)
      case first =>
        obtain ⟨a8, c8, rfl, -⟩ := R0.out.row.form
        obtain ⟨s0, s1, -, -⟩ := blk2 R0.out.box
        have ls := lt_of_heap R0.out.box
        generalize L.length = m8 at *
        by_cases h4 : d = 4
        · obtain ⟨e, x, hRf, hMt⟩ := get_both w N b8 wo l L (.slice a8 m8 c8) on R0.out (by omega)
          simp only [FV.val] at hRf hMt
          have HRf := Lib.hid hRf
          have HMt := Lib.hid hMt
          clear hRf hMt
          subst h4
          go_wp2_with fail
          refine (HMt.out _ (Ext.refl _)).mono ?_
          rintro r w3 ⟨rfl, hx3⟩
          have HX3 := Lib.hid hx3
          clear p0 p1 p2 p3 p4 p5 p6 p7 p8 p9 p10 p11 s0 s1 ls lb
          obtain ⟨-, p1, -⟩ := blk12 (hx3.heap HB.out)
          have lb := lt_of_heap (hx3.heap HB.out)
          obtain ⟨s0, s1, -, -⟩ := blk2 (hx3.heap R0.out.box)
          have ls := lt_of_heap (hx3.heap R0.out.box)
          clear hx3
          go_wp2_with fail
          refine (HRf.out _ (HX3.out.alloc _)).mono ?_
          rintro r w4 ⟨rfl, hx4⟩
          have hb11 := hx4.heap (heap_alloc_new w3 (.cells #[.int .i64 x.h1, .int .i64 x.h2, .int .i64 x.u1, .int .i64 x.u2, .string x.name, .bool x.dir, .bool x.opn, .int .i64 x.mode, .int .i64 x.off, .int .i64 x.at_] 32))
          obtain ⟨q0, q1, q2, q3, q4, q5, q6, q7, q8, q9⟩ := blk10 (v := x) hb11
          have l11 := lt_of_heap hb11
          have HN := Lib.hid (R0.out.grow (((HX3.out.alloc _).trans hx4).alloc (.cells #[.int .i64 x.h1, .int .i64 x.h2, .int .i64 x.u1, .int .i64 x.u2, .string x.name, .bool x.dir, .bool x.opn, .int .i64 x.mode, .int .i64 x.off, .int .i64 x.at_] 39)))
          clear hx4 hb11 s0 s1 ls lb p1
          go_wp2_with fail
          go_meet
          exact ⟨_, _, _, HN.out, by omega⟩
        by_cases h5 : d = 5
        · subst h5
          clear h4
          obtain ⟨e, l', L', hI', hl1, hRf, hMt⟩ := set_both w N b8 wo l L (.slice a8 m8 c8) on R0.out (by omega) ox
          simp only [FV.val] at hRf hMt
          obtain ⟨m2, hm2⟩ : ∃ m2, m2 = L'.length := ⟨_, rfl⟩
          rw [← hm2] at hRf
          have HRf := Lib.hid hRf
          have HMt := Lib.hid hMt
          have HI' := Lib.hid hI'
          clear hRf hMt hI' hm2
          go_wp2_with fail
          refine (HRf.out _ (Ext.refl _)).mono ?_
          rintro r w3 ⟨a2, c2, rfl, hr3, hx3⟩
          obtain ⟨hmu, hfin⟩ := R0.out.two hx3 hr3 (Nat.le_refl _) ((Ext.refl _).alloc (.cells #[.int .i64 N, .slice a2 m2 c2] 43))
          have HMu := Lib.hid hmu
          have HFin := Lib.hid hfin
          clear p0 p1 p2 p3 p4 p5 p6 p7 p8 p9 p10 p11 s0 s1 ls lb
          obtain ⟨-, p1, p2, p3, p4, p5, p6, p7, p8, p9, p10, p11⟩ := blk12 (hx3.heap HB.out)
          have lb := lt_of_heap (hx3.heap HB.out)
          obtain ⟨s0, s1, s2, s3⟩ := blk2 (hx3.heap R0.out.box)
          have ls := lt_of_heap (hx3.heap R0.out.box)
          clear hmu hfin hr3 hx3
          go_wp2_with fail
          refine (HMt.out _ HMu.out).mono ?_
          rintro r w5 ⟨rfl, hm5, hu5⟩
          have HN := Lib.hid (HFin.out _ _ hm5 hu5 HI'.out)
          clear hm5 hu5
          go_wp2_with fail
          go_meet
          exact ⟨_, _, _, HN.out, by omega⟩
        by_cases h6 : d = 6
        · subst h6
          clear h4 h5
          obtain ⟨e, l', L', hI', hl1, hRf, hMt⟩ := drop_both w N b8 wo l L (.slice a8 m8 c8) on R0.out (by omega)
          obtain ⟨m2, hm2⟩ : ∃ m2, m2 = L'.length := ⟨_, rfl⟩
          rw [← hm2] at hRf
          have HRf := Lib.hid hRf
          have HMt := Lib.hid hMt
          have HI' := Lib.hid hI'
          clear hRf hMt hI' hm2
          go_wp2_with fail
          refine (HRf.out _ (Ext.refl _)).mono ?_
          rintro r w3 ⟨a2, c2, rfl, hr3, hx3⟩
          obtain ⟨hmu, hfin⟩ := R0.out.two hx3 hr3 (Nat.le_refl _) ((Ext.refl _).alloc (.cells #[.int .i64 N, .slice a2 m2 c2] 43))
          have HMu := Lib.hid hmu
          have HFin := Lib.hid hfin
          clear p0 p1 p2 p3 p4 p5 p6 p7 p8 p9 p10 p11 s0 s1 ls lb
          obtain ⟨-, p1, p2, p3, p4, p5, p6, p7, p8, p9, p10, p11⟩ := blk12 (hx3.heap HB.out)
          have lb := lt_of_heap (hx3.heap HB.out)
          obtain ⟨s0, s1, s2, s3⟩ := blk2 (hx3.heap R0.out.box)
          have ls := lt_of_heap (hx3.heap R0.out.box)
          clear hmu hfin hr3 hx3
          go_wp2_with fail
          refine (HMt.out _ HMu.out).mono ?_
          rintro r w5 ⟨rfl, hm5, hu5⟩
          have HN := Lib.hid (HFin.out _ _ hm5 hu5 HI'.out)
          clear hm5 hu5
          go_wp2_with fail
          go_meet
          exact ⟨_, _, _, HN.out, by omega⟩
        by_cases h7 : d = 7
        · subst h7
          obtain ⟨-, -, -, s3⟩ := blk2 R0.out.box
          obtain ⟨hmu, hfin⟩ := R0.out.clear
          have HMu := Lib.hid hmu
          have HFin := Lib.hid hfin
          clear hmu hfin
          cases hr : (on.tmod 3 == (0 : Int))
          · go_wp2_with fail
            go_meet
            exact ⟨_, _, _, R0.out, by omega⟩
          · go_wp2_with fail
            refine (clear_any _ _ _ _ _ HMu.out).mono ?_
            rintro r w5 ⟨rfl, hm5, hu5⟩
            have HN := Lib.hid (HFin.out _ hm5 hu5)
            clear hm5 hu5
            go_wp2_with fail
            go_meet
            exact ⟨_, _, _, HN.out, by simp⟩
        by_cases h8 : d = 8
        · obtain ⟨e, hRf, hMt⟩ := free_both w N b8 wo l L (.slice a8 m8 c8) on R0.out (by omega)
          have HRf := Lib.hid hRf
          have HMt := Lib.hid hMt
          clear hRf hMt
          subst h8
          go_wp2_with fail
          go_region_held3 (fun w' => w'.cell? ⟨b8, 0, none⟩ = some (.int .i64 N) ∧ w'.cell? ⟨b8, 1, none⟩ = some (.slice a8 m8 c8) ∧ w'.cell? ⟨wr.heap.size, 1, none⟩ = some (.int .i64 on) ∧ Ext wo w') (first | exact ⟨s0, s1, p1, drew_ext wo⟩ | exact keep3e (by assumption) hx4 | exact keep3e (by assumption) hx3 | assumption) (first | (go_at_call 23; refine (HMt.out _ (And.right (And.right (And.right (by assumption))))).mono ?_; rintro r w3 ⟨rfl, hx3⟩) | (go_at_call 24; refine (HRf.out _ (And.right (And.right (And.right (by assumption))))).mono ?_; rintro r w4 ⟨rfl, hx4⟩))
          have HE := Lib.hid (show Ext wo w4 from And.right (And.right (And.right (by assumption))))
          clear hx3 hx4
          go_wp2_with fail
          go_meet
          exact ⟨_, _, _, R0.out.grow HE.out, by omega⟩
        have e4 : ((d : Int) == 4) = false := by simp; omega
        have e5 : ((d : Int) == 5) = false := by simp; omega
        have e6 : ((d : Int) == 6) = false := by simp; omega
        have e7 : ((d : Int) == 7) = false := by simp; omega
        have e8 : ((d : Int) == 8) = false := by simp; omega
        clear h4 h5 h6 h7 h8
        obtain ⟨e, l', L', hI', hl1, hl2, hRf, hMt⟩ := add_both w N b8 wo l L (.slice a8 m8 c8) R0.out (by omega) on ox
        simp only [FV.val] at hRf hMt
        obtain ⟨m2, hm2⟩ : ∃ m2, m2 = L'.length := ⟨_, rfl⟩
        rw [← hm2] at hRf
        have hl3 := hl2 (by omega)
        have HRf := Lib.hid hRf
        have HMt := Lib.hid hMt
        have HI' := Lib.hid hI'
        clear hRf hMt hI' hm2 hl2
        go_wp2_with fail
        refine (HRf.out _ (Ext.refl _)).mono ?_
        rintro r w3 ⟨a2, c2, rfl, hr3, hx3⟩
        obtain ⟨hmu, hfin⟩ := R0.out.two hx3 hr3 (Nat.le_refl _) ((Ext.refl _).alloc (.cells #[.int .i64 N, .slice a2 m2 c2] 43))
        have HMu := Lib.hid hmu
        have HFin := Lib.hid hfin
        clear p0 p1 p2 p3 p4 p5 p6 p7 p8 p9 p10 p11 s0 s1 ls lb
        obtain ⟨-, p1, p2, p3, p4, p5, p6, p7, p8, p9, p10, p11⟩ := blk12 (hx3.heap HB.out)
        have lb := lt_of_heap (hx3.heap HB.out)
        obtain ⟨s0, s1, s2, s3⟩ := blk2 (hx3.heap R0.out.box)
        have ls := lt_of_heap (hx3.heap R0.out.box)
        clear hmu hfin hr3 hx3
        go_wp2_with fail
        refine (HMt.out _ HMu.out).mono ?_
        rintro r w5 ⟨rfl, hm5, hu5⟩
        have HN := Lib.hid (HFin.out _ _ hm5 hu5 HI'.out)
        clear hm5 hu5
        go_wp2_with fail
        go_meet
        exact ⟨_, _, _, HN.out, by omega⟩
      case rest =>
        obtain ⟨l2, L2, v2, hR2, hl2⟩ := hcut
        obtain ⟨a2, c2, rfl, -⟩ := hR2.row.form
        obtain ⟨s0, s1, -, -⟩ := blk2 hR2.box
        have ls := lt_of_heap hR2.box
        have R2 := Lib.hid hR2
        clear hR2
        generalize L2.length = m2 at *
        go_wp2_with fail
        refine (like_any _ _ _ _ _ R2.out.fid (by omega) _ _ _ R2.out.row R2.out.inv).mono ?_
        rintro r w9 ⟨rfl, hx9⟩
        have HN := Lib.hid (R2.out.grow hx9)
        clear hx9
        go_wp2_with fail
        go_roundw
        case rel => exact ⟨i + 1, _, _, _, by omega, by omega, by go_num, HN.out, by omega⟩
        case measure => simp [RowKit.intOf]; omega
    · have hall : (decide (i < len) = true ∧ decide ((i : Int) < 24) = false) ∨ decide (i < len) = false := by
        by_cases h5 : len ≤ i
        · right; simp; omega
        · left; exact ⟨by simp; omega, by simp; omega⟩
      clear hP
      rcases hall with ⟨hd, hd2⟩ | hd
      all_goals
        go_wp2_with fail
        refine (lives_any _).mono ?_
        rintro r w9 ⟨rfl, hx9⟩
        go_wp2_with fail
        go_ret
        exact ⟨rfl, HP.out.ext.trans hx9⟩
end Go.Proofs.Ytekdoannpkifaaa
