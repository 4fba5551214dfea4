/- The walk of the law InodePlays. -/
import Derived.Test.YtmdacpkkglhefaaInoX
namespace Go.Proofs.Ytmdacpkkglhefaa
open Go.ChangeShapes Go.WideShapes Go.ChangeAt Go.RowKit

set_option maxRecDepth 100000 in
set_option maxHeartbeats 16000000 in
theorem inodePlays_walk (w : World) (most : Int) (w0 : (Lit.int .i64 most).wf = true) (la : Option Addr) (len cap : Nat) (B : Nat → OV) (w1 : IsOs w la len cap B) :
    Calls Try.prog 7 #[.int .i64 most, .slice la len cap] w fun r w' => r = .returned (.bool true) ∧ Ext w w' := by
  obtain ⟨n, hn, ha⟩ := around_nat most 6 (by omega) w0
  have HA := Lib.hid ha
  have W1 := Lib.hid w1
  have HN := Lib.hid (show ∀ W, Calls Try.prog 12 #[.int .i64 (1 + (n : Int))] W fun r w' => r = .returned (.tuple #[.pointer (some ⟨W.heap.size + 1, 0, none⟩), .int .i64 0]) ∧ inoI.TabW w' (W.heap.size + 1) (W.heap.size + 2) W.heap.size (List.replicate (1 + n) inoI.Pl.zero) ∧ Ext W w' from fun W => by
    have := inoI.new_yes (1 + n) W (by omega) (by omega)
    simpa using this)
  clear ha w0 w1
  go_enter Try.func7, Try.ntmps7
  go_wp2_with fail
  refine (HA.out _).mono ?_
  rintro r wb ⟨rfl, rfl⟩
  go_wp2_with fail
  refine (HN.out _).mono ?_
  rintro r wa ⟨rfl, hma, hxa⟩
  obtain ⟨b8, hb8⟩ : ∃ b8, b8 = wa.heap.size := ⟨_, rfl⟩
  have hb8l : w.heap.size + 2 < b8 := by rw [hb8]; exact lt_of_heap hma.var
  obtain ⟨N, hN⟩ : ∃ N, N = 1 + n := ⟨_, rfl⟩
  have M0 := Lib.hid (show PlayW w N b8 0 (.slice none 0 0) (wa.alloc (.cells #[.int .i64 (1 + (n : Int)), .slice none 0 0] 51)) from
    ⟨_, [], [], .slice none 0 0, ⟨hma.ext ((Ext.refl wa).alloc _), by rw [hb8, hN]; have := heap_alloc_new wa (.cells #[.int .i64 (1 + (n : Int)), .slice none 0 0] 51); simpa using this, inoI.RecRow.nil _ _, World.ownsRow_nil _ _ _ _, hxa.alloc _, hb8l⟩, by rw [hN]; exact inoI.Inv.zero _, by simp, by simp⟩)
  have hN6 : N ≤ 6 := by omega
  clear hma hxa hN
  go_wp2_with fail
  rw [← hb8]
  clear hb8 HA HN
  go_loopw [9, 10] (fun v9 v10 wr => ∃ i : Nat, i ≤ 24 ∧ i ≤ len ∧ v10 = .int .i64 i ∧ PlayW w N b8 i v9 wr) (fun _ v10 _ => 24 - (intOf v10).toNat)
  case atStart => exact ⟨0, by omega, by omega, rfl, M0.out⟩
  case round =>
    obtain ⟨i, hi24, hil, rfl, ps, L, hs, v8, hS, hI, hL, hhl⟩ := hrel
    have HS := Lib.hid hS
    have HI := Lib.hid hI
    obtain ⟨a9, c9, rfl, h9c, h9m, -⟩ := hS.all.form
    clear hI
    have hcl := W1.out.1
    have hcm := W1.out.2.1
    unfold maxLen at hcm h9m
    clear hS M0
    by_cases hlt : i < len ∧ i < 24
    · have hd1 : decide ((i : Int) < (len : Int)) = true := by simp; omega
      have hd2 : decide ((i : Int) < 24) = true := by simp; omega
      have hi0 : (0 : Int) ≤ (i : Int) := by omega
      have hi1 : (i : Int) < (len : Int) := by omega
      obtain ⟨hok, g, o, rfl, q0, q1, q2, q3⟩ := (W1.out.ext HS.out.ext).2.2 i hlt.1
      have hgl := World.block_lt_of_cell? _ _ q0
      simp only at hgl
      generalize B i = ov at *
      obtain ⟨od, on, oi, og⟩ := ov
      simp only at q0 q1 q2 q3
      obtain ⟨k, hk, hka⟩ := around_nat on (hs.length + 1) (by omega) hok.2
      obtain ⟨d, hd8, hda⟩ := around_nat od 8 (by omega) hok.1
      obtain ⟨m9, hm9⟩ : ∃ m9, m9 = hs.length := ⟨_, rfl⟩
      rw [← hm9] at hk hka hhl h9c HS ⊢
      have HM9 := Lib.hid hm9
      have HK := Lib.hid (show ∀ W, Calls Try.prog 8 #[.int .i64 on, .int .i64 ((m9 : Int) + 1)] W fun r w' => r = .returned (.int .i64 k) ∧ W = w' from fun W => by simpa using hka W)
      have HD := Lib.hid hda
      clear hok hka hda hm9
      go_wp2_with fail
      refine (HK.out _).mono ?_
      rintro r w2 ⟨rfl, rfl⟩
      go_upto_if 67 with (fail)
      go_cut [13] (fun s13 wx => ∃ hi hg : Int, wx.heap[wr.heap.size + 1]? = some (.cells #[.int .i64 hi, .int .i64 hg] 29 (0, 0)) ∧ wx.heap[wr.heap.size]? = some (.cells #[.int .i64 od, .int .i64 on, .int .i64 oi, .int .i64 og] 53 (0, 0)) ∧ Ext wr wx)
      case first =>
        by_cases hkm : k < m9
        · have hdk : decide (k < m9) = true := by simpa using hkm
          obtain ⟨a9', c9', e9, -, -, hcell⟩ := HS.out.all.form
          injection e9 with e1 e2 e3
          subst e1 e3
          clear e2
          obtain ⟨g9, rfl, hg9, r0, r1⟩ := hcell k (by rw [← HM9.out]; exact hkm)
          have hk0 : (0 : Int) ≤ (k : Int) := by omega
          have hk1 : (k : Int) < (m9 : Int) := by omega
          generalize hs[k]'(by rw [← HM9.out]; exact hkm) = pk at *
          clear hcell
          go_wp2_with fail
          go_meet
          exact ⟨_, _, heap_alloc2_new wr _ _, heap_alloc2_old wr _ _, ((Ext.refl wr).alloc _).alloc _⟩
        · have hdk : decide (k < m9) = false := by simpa using hkm
          go_wp2_with fail
          go_meet
          exact ⟨_, _, heap_alloc2_new wr _ _, heap_alloc2_old wr _ _, ((Ext.refl wr).alloc _).alloc _⟩
      case rest =>
        obtain ⟨hi, hg, hb12, hb11, hx⟩ := hcut
        have R0 := Lib.hid (HS.out.grow hx)
        obtain ⟨x0, x1, x2, x3⟩ : wc.cell? ⟨wr.heap.size, 0, none⟩ = some (.int .i64 od) ∧ True ∧ True ∧ True := ⟨cell_of hb11 0, trivial, trivial, trivial⟩
        obtain ⟨y0, y1, -, -⟩ := blk2 hb12
        have lb := lt_of_heap hb12
        have HB12 := Lib.hid hb12
        clear hb11 hb12 hx HS q0 q1 q2 q3 HK x1 x2 x3
        go_wp2_with fail
        refine (HD.out _).mono ?_
        rintro r w2 ⟨rfl, rfl⟩
        clear x0
        obtain ⟨a8, c8, rfl, h8c, h8m, -⟩ := R0.out.row.form
        obtain ⟨l8, hl8⟩ : ∃ l8, l8 = L.length := ⟨_, rfl⟩
        rw [← hl8] at hL R0 h8c
        have HL8 := Lib.hid hl8
        obtain ⟨s0, s1, s2, s3⟩ := blk2 R0.out.box
        have ls := lt_of_heap R0.out.box
        clear hl8
        by_cases h4 : d = 4
        · subst h4
          rcases inoI.first_of (inoI.hit hi hg) L with ⟨k', hk', hh, hb⟩ | hno
          · obtain ⟨ip, hip, rfl, his, hgn, hLk⟩ := HI.out.live hk' hh
            have HH := Lib.hid hh
            have HB := Lib.hid hb
            have HIS := Lib.hid his
            have HGN := Lib.hid hgn
            have HLk := Lib.hid hLk
            clear hh hb his hgn hLk
            have hk8 : k' < l8 := by rw [HL8.out]; exact hk'

            have HGt := Lib.hid (fun W hW => inoI.get_ok (w.heap.size + 1) (w.heap.size + 2) w.heap.size ps W ip hip hW HIS.out hg HGN.out)
            have HXk := Lib.hid (show L[k'].n = ps[ip].x by rw [HLk.out])
            obtain ⟨xx, hxx⟩ : ∃ xx, xx = ps[ip].x := ⟨_, rfl⟩
            rw [← hxx] at HGt HXk
            clear hxx
            go_wp2_with fail
            refine (HGt.out _ R0.out.tab).mono ?_
            rintro r w3 ⟨rfl, hx3⟩
            have R3 := Lib.hid (R0.out.grow hx3)
            obtain ⟨y0, y1, -, -⟩ := blk2 (hx3.heap HB12.out)
            obtain ⟨s0, s1, s2, s3⟩ := blk2 R3.out.box
            have ls := lt_of_heap R3.out.box
            have lb := lt_of_heap (hx3.heap HB12.out)
            clear hx3
            go_wp2_with fail
            refine (inoI.refFind_some _ _ _ _ L R3.out.row (by rw [← HL8.out]; omega) _ hg k' hk' HH.out HB.out).mono ?_
            rintro r w4 ⟨rfl, hx4⟩
            have R4 := Lib.hid (R3.out.grow hx4)
            clear hx4
            obtain ⟨a8', c8', e8, h8c', h8m', hcell⟩ := R4.out.row.form
            injection e8 with e1 e2 e3
            subst e1 e3
            clear e2
            obtain ⟨g8, rfl, hg8, -, -, r2, -⟩ := hcell k' hk'
            rw [HXk.out] at r2
            have hk0 : (0 : Int) ≤ (k' : Int) := by omega
            have hk1 : (k' : Int) < (l8 : Int) := by omega
            have hmx : max (k' : Int) 0 = (k' : Int) := by omega
            unfold maxLen at h8m'
            clear hcell h8c'

            obtain ⟨s0, s1, s2, s3⟩ := blk2 R4.out.box
            have ls := lt_of_heap R4.out.box
            go_wp2_with fail
            refine (inoI.like_any _ _ _ _ _ R4.out.tab N (by omega) _ _ L R4.out.row (by rw [← HL8.out]; omega) HI.out).mono ?_
            rintro r w9 ⟨rfl, hx9⟩
            have HN9 := Lib.hid (show PlayW w N b8 (i + 1) (.slice a9 m9 c9) w9 from ⟨_, L, hs, _, R4.out.grow hx9, HI.out, by rw [← HL8.out]; omega, by rw [← HM9.out]; omega⟩)
            clear hx9
            go_wp2_with fail
            go_roundw
            case rel => exact ⟨i + 1, by omega, by omega, by go_num, HN9.out⟩
            case measure => simp [intOf]; omega
          · have HNo := Lib.hid hno
            clear hno
            go_wp2_with fail
            refine (inoI.get_no _ _ _ _ _ hi hg R0.out.tab (HI.out.stale HNo.out)).mono ?_
            rintro r w3 ⟨rfl, hx3⟩
            have R3 := Lib.hid (R0.out.grow hx3)
            obtain ⟨y0, y1, -, -⟩ := blk2 (hx3.heap HB12.out)
            obtain ⟨s0, s1, s2, s3⟩ := blk2 R3.out.box
            have ls := lt_of_heap R3.out.box
            have lb := lt_of_heap (hx3.heap HB12.out)
            clear hx3
            go_wp2_with fail
            refine (inoI.refFind_none _ _ _ _ L R3.out.row (by rw [← HL8.out]; omega) hi hg HNo.out).mono ?_
            rintro r w4 ⟨rfl, hx4⟩
            have R4 := Lib.hid (R3.out.grow hx4)
            clear hx4

            obtain ⟨s0, s1, s2, s3⟩ := blk2 R4.out.box
            have ls := lt_of_heap R4.out.box
            go_wp2_with fail
            refine (inoI.like_any _ _ _ _ _ R4.out.tab N (by omega) _ _ L R4.out.row (by rw [← HL8.out]; omega) HI.out).mono ?_
            rintro r w9 ⟨rfl, hx9⟩
            have HN9 := Lib.hid (show PlayW w N b8 (i + 1) (.slice a9 m9 c9) w9 from ⟨_, L, hs, _, R4.out.grow hx9, HI.out, by rw [← HL8.out]; omega, by rw [← HM9.out]; omega⟩)
            clear hx9
            go_wp2_with fail
            go_roundw
            case rel => exact ⟨i + 1, by omega, by omega, by go_num, HN9.out⟩
            case measure => simp [intOf]; omega
        · by_cases h5 : d = 5
          · subst h5
            clear h4
            rcases inoI.first_of (inoI.hit hi hg) L with ⟨k', hk', hh, hb⟩ | hno
            · obtain ⟨ip, hip, rfl, his, hgn, hLk⟩ := HI.out.live hk' hh
              have HH := Lib.hid hh
              have HB := Lib.hid hb
              have HIS := Lib.hid his
              have HGN := Lib.hid hgn
              have HLk := Lib.hid hLk
              clear hh hb his hgn hLk
              have hk8 : k' < l8 := by rw [HL8.out]; exact hk'

              go_wp2_with fail
              refine (inoI.refSet_ok _ _ _ _ L R0.out.row (by rw [← HL8.out]; omega) _ hg (1000 + (i : Int)) true k' hk' HH.out HB.out).mono ?_
              rintro r w3 ⟨v8', rfl, hr3, hx3⟩
              have R3 := Lib.hid (R0.out.grow hx3)
              have B3 := Lib.hid (hx3.heap HB12.out)
              obtain ⟨s0, s1, s2, s3⟩ := blk2 R3.out.box
              have ls := lt_of_heap R3.out.box
              obtain ⟨y0, y1, -, -⟩ := blk2 B3.out
              have lb := lt_of_heap B3.out
              have hw0 : w.heap.size + 3 ≤ wc.heap.size := by have := lt_of_heap R0.out.box; omega
              have hr4 : inoI.RecRow w3 (w.heap.size + 3) v8' _ := ownsRow_mono hr3 hw0
              have HLn := Lib.hid (show (L.set k' ⟨(ip : Int) + 1, hg, 1000 + (i : Int), true⟩).length = l8 by rw [List.length_set, HL8.out])
              obtain ⟨a8', c8', rfl, -⟩ := inoI.RecRow.form hr3
              rw [HLn.out] at hr4 ⊢
              have R4 := Lib.hid (((R3.out.put hr4).grow ((Ext.refl _).alloc (.cells #[.int .i64 N, .slice a8' l8 c8'] 51))))
              have hne : wr.heap.size + 1 ≠ b8 := by
                intro e; have h1 := B3.out; rw [e] at h1; have := h1.symm.trans R3.out.box; simp at this
              have hne' := hne.symm
              have I5 := HI.out.set hip hk' (by rw [HLk.out, HGN.out]) HIS.out (1000 + (i : Int)) true
              rw [HGN.out] at I5
              have HI5 := Lib.hid I5
              clear hx3 hr3 hr4 I5 hw0
              go_wp2_with fail
              refine (inoI.set_ok _ _ _ _ _ ip hip (1000 + (i : Int)) R4.out.tab HIS.out hg HGN.out).mono ?_
              rintro r w5 ⟨rfl, ht5, hu5⟩
              have R5 := Lib.hid (R4.out.retab ht5 hu5)
              clear ht5 hu5 s0 s1 s2 s3 y0 y1

              obtain ⟨s0, s1, s2, s3⟩ := blk2 R5.out.box
              have ls := lt_of_heap R5.out.box
              go_wp2_with fail
              refine (inoI.like_any _ _ _ _ _ R5.out.tab N (by omega) _ _ (L.set k' ⟨(ip : Int) + 1, hg, 1000 + (i : Int), true⟩) R5.out.row (by rw [HLn.out]; omega) HI5.out).mono ?_
              rintro r w9 ⟨rfl, hx9⟩
              have HN9 := Lib.hid (show PlayW w N b8 (i + 1) (.slice a9 m9 c9) w9 from ⟨_, (L.set k' ⟨(ip : Int) + 1, hg, 1000 + (i : Int), true⟩), hs, _, R5.out.grow hx9, HI5.out, by rw [HLn.out]; omega, by rw [← HM9.out]; omega⟩)
              clear hx9
              go_wp2_with fail
              go_roundw
              case rel => exact ⟨i + 1, by omega, by omega, by go_num, HN9.out⟩
              case measure => simp [intOf]; omega
            · have HNo := Lib.hid hno
              clear hno
              go_wp2_with fail
              refine (inoI.refSet_no _ _ _ _ L R0.out.row (by rw [← HL8.out]; omega) hi hg (1000 + (i : Int)) true HNo.out).mono ?_
              rintro r w3 ⟨rfl, hx3⟩
              have R3 := Lib.hid (R0.out.grow hx3)
              have B3 := Lib.hid (hx3.heap HB12.out)
              obtain ⟨s0, s1, s2, s3⟩ := blk2 R3.out.box
              have ls := lt_of_heap R3.out.box
              obtain ⟨y0, y1, -, -⟩ := blk2 B3.out
              have lb := lt_of_heap B3.out
              have R4 := Lib.hid (((R3.out.put R3.out.row).grow ((Ext.refl _).alloc (.cells #[.int .i64 N, .slice a8 l8 c8] 51))))
              have hne : wr.heap.size + 1 ≠ b8 := by
                intro e; have h1 := B3.out; rw [e] at h1; have := h1.symm.trans R3.out.box; simp at this
              have hne' := hne.symm
              clear hx3
              go_wp2_with fail
              refine (inoI.set_no _ _ _ _ _ hi hg (1000 + (i : Int)) R4.out.tab (HI.out.stale HNo.out)).mono ?_
              rintro r w5 ⟨rfl, hx5⟩
              have R5 := Lib.hid (R4.out.grow hx5)
              clear hx5 s0 s1 s2 s3 y0 y1

              obtain ⟨s0, s1, s2, s3⟩ := blk2 R5.out.box
              have ls := lt_of_heap R5.out.box
              go_wp2_with fail
              refine (inoI.like_any _ _ _ _ _ R5.out.tab N (by omega) _ _ L R5.out.row (by rw [← HL8.out]; omega) HI.out).mono ?_
              rintro r w9 ⟨rfl, hx9⟩
              have HN9 := Lib.hid (show PlayW w N b8 (i + 1) (.slice a9 m9 c9) w9 from ⟨_, L, hs, _, R5.out.grow hx9, HI.out, by rw [← HL8.out]; omega, by rw [← HM9.out]; omega⟩)
              clear hx9
              go_wp2_with fail
              go_roundw
              case rel => exact ⟨i + 1, by omega, by omega, by go_num, HN9.out⟩
              case measure => simp [intOf]; omega
          · by_cases h67 : d = 6 ∨ d = 7
            · rcases h67 with rfl | rfl
              all_goals
                clear h4 h5
                rcases inoI.first_of (inoI.hit hi hg) L with ⟨k', hk', hh, hb⟩ | hno
                · obtain ⟨ip, hip, rfl, his, hgn, hLk⟩ := HI.out.live hk' hh
                  have HH := Lib.hid hh
                  have HB := Lib.hid hb
                  have HIS := Lib.hid his
                  have HGN := Lib.hid hgn
                  have HLk := Lib.hid hLk
                  clear hh hb his hgn hLk
                  have hk8 : k' < l8 := by rw [HL8.out]; exact hk'

                  go_wp2_with fail
                  refine (inoI.refSet_ok _ _ _ _ L R0.out.row (by rw [← HL8.out]; omega) _ hg (0) false k' hk' HH.out HB.out).mono ?_
                  rintro r w3 ⟨v8', rfl, hr3, hx3⟩
                  have R3 := Lib.hid (R0.out.grow hx3)
                  have B3 := Lib.hid (hx3.heap HB12.out)
                  obtain ⟨s0, s1, s2, s3⟩ := blk2 R3.out.box
                  have ls := lt_of_heap R3.out.box
                  obtain ⟨y0, y1, -, -⟩ := blk2 B3.out
                  have lb := lt_of_heap B3.out
                  have hw0 : w.heap.size + 3 ≤ wc.heap.size := by have := lt_of_heap R0.out.box; omega
                  have hr4 : inoI.RecRow w3 (w.heap.size + 3) v8' _ := ownsRow_mono hr3 hw0
                  have HLn := Lib.hid (show (L.set k' ⟨(ip : Int) + 1, hg, 0, false⟩).length = l8 by rw [List.length_set, HL8.out])
                  obtain ⟨a8', c8', rfl, -⟩ := inoI.RecRow.form hr3
                  rw [HLn.out] at hr4 ⊢
                  have R4 := Lib.hid (((R3.out.put hr4).grow ((Ext.refl _).alloc (.cells #[.int .i64 N, .slice a8' l8 c8'] 51))))
                  have hne : wr.heap.size + 1 ≠ b8 := by
                    intro e; have h1 := B3.out; rw [e] at h1; have := h1.symm.trans R3.out.box; simp at this
                  have hne' := hne.symm
                  have I5 := HI.out.set hip hk' (by rw [HLk.out, HGN.out]) HIS.out (0) false
                  rw [HGN.out] at I5
                  have HI5 := Lib.hid I5
                  clear hx3 hr3 hr4 I5 hw0
                  go_wp2_with fail
                  refine (inoI.remove_ok _ _ _ _ _ ip hip  R4.out.tab HIS.out hg HGN.out).mono ?_
                  rintro r w5 ⟨rfl, ht5, hu5⟩
                  have R5 := Lib.hid (R4.out.retab ht5 hu5)
                  clear ht5 hu5 s0 s1 s2 s3 y0 y1

                  obtain ⟨s0, s1, s2, s3⟩ := blk2 R5.out.box
                  have ls := lt_of_heap R5.out.box
                  go_wp2_with fail
                  refine (inoI.like_any _ _ _ _ _ R5.out.tab N (by omega) _ _ (L.set k' ⟨(ip : Int) + 1, hg, 0, false⟩) R5.out.row (by rw [HLn.out]; omega) HI5.out).mono ?_
                  rintro r w9 ⟨rfl, hx9⟩
                  have HN9 := Lib.hid (show PlayW w N b8 (i + 1) (.slice a9 m9 c9) w9 from ⟨_, (L.set k' ⟨(ip : Int) + 1, hg, 0, false⟩), hs, _, R5.out.grow hx9, HI5.out, by rw [HLn.out]; omega, by rw [← HM9.out]; omega⟩)
                  clear hx9
                  go_wp2_with fail
                  go_roundw
                  case rel => exact ⟨i + 1, by omega, by omega, by go_num, HN9.out⟩
                  case measure => simp [intOf]; omega
                · have HNo := Lib.hid hno
                  clear hno
                  go_wp2_with fail
                  refine (inoI.refSet_no _ _ _ _ L R0.out.row (by rw [← HL8.out]; omega) hi hg (0) false HNo.out).mono ?_
                  rintro r w3 ⟨rfl, hx3⟩
                  have R3 := Lib.hid (R0.out.grow hx3)
                  have B3 := Lib.hid (hx3.heap HB12.out)
                  obtain ⟨s0, s1, s2, s3⟩ := blk2 R3.out.box
                  have ls := lt_of_heap R3.out.box
                  obtain ⟨y0, y1, -, -⟩ := blk2 B3.out
                  have lb := lt_of_heap B3.out
                  have R4 := Lib.hid (((R3.out.put R3.out.row).grow ((Ext.refl _).alloc (.cells #[.int .i64 N, .slice a8 l8 c8] 51))))
                  have hne : wr.heap.size + 1 ≠ b8 := by
                    intro e; have h1 := B3.out; rw [e] at h1; have := h1.symm.trans R3.out.box; simp at this
                  have hne' := hne.symm
                  clear hx3
                  go_wp2_with fail
                  refine (inoI.remove_no _ _ _ _ _ hi hg  R4.out.tab (HI.out.stale HNo.out)).mono ?_
                  rintro r w5 ⟨rfl, hx5⟩
                  have R5 := Lib.hid (R4.out.grow hx5)
                  clear hx5 s0 s1 s2 s3 y0 y1

                  obtain ⟨s0, s1, s2, s3⟩ := blk2 R5.out.box
                  have ls := lt_of_heap R5.out.box
                  go_wp2_with fail
                  refine (inoI.like_any _ _ _ _ _ R5.out.tab N (by omega) _ _ L R5.out.row (by rw [← HL8.out]; omega) HI.out).mono ?_
                  rintro r w9 ⟨rfl, hx9⟩
                  have HN9 := Lib.hid (show PlayW w N b8 (i + 1) (.slice a9 m9 c9) w9 from ⟨_, L, hs, _, R5.out.grow hx9, HI.out, by rw [← HL8.out]; omega, by rw [← HM9.out]; omega⟩)
                  clear hx9
                  go_wp2_with fail
                  go_roundw
                  case rel => exact ⟨i + 1, by omega, by omega, by go_num, HN9.out⟩
                  case measure => simp [intOf]; omega
            · have e4 : ((d : Int) == 4) = false := by simp; omega
              have e5 : ((d : Int) == 5) = false := by simp; omega
              have e6 : ((d : Int) == 6) = false := by simp; omega
              have e7 : ((d : Int) == 7) = false := by simp; omega
              clear h4 h5 h67
              rcases inoI.first_free ps with ⟨m, hm, hf, hall⟩ | hall
              · have HF := Lib.hid hf
                have HALL := Lib.hid hall
                clear hf hall
                have hgb := HI.out.gen_bd hm
                rw [← HL8.out] at hgb
                have hmN : m < N := by have := HI.out.len; omega
                have HGe := Lib.hid (HI.out.gen m hm)
                have HAdd := Lib.hid (fun W hW => inoI.add_ok (w.heap.size + 1) (w.heap.size + 2) w.heap.size ps W (i : Int) hW m hm HF.out HALL.out hgb.1 (by have := hgb.2; omega))
                have I5 := HI.out.add hm HF.out (i : Int)
                obtain ⟨gm, hgm⟩ : ∃ gm, gm = ps[m].gen := ⟨_, rfl⟩
                rw [← hgm] at HAdd I5 hgb HGe
                have HI5 := Lib.hid I5
                have hg0 := hgb.1
                have hg1 := hgb.2
                have HFr := Lib.hid (HI.out.freeAt hm HF.out HALL.out)
                clear hgm hgb I5 HF HALL
                go_wp2_with fail
                refine (inoI.refAdd_ok _ _ N (by omega) _ L R0.out.row (by rw [← HL8.out]; omega) (i : Int) m hmN HFr.out gm HGe.out.symm).mono ?_
                rintro r w3 ⟨v8', rfl, hr3, hx3⟩
                have R3 := Lib.hid (R0.out.grow hx3)
                obtain ⟨s0, s1, s2, s3⟩ := blk2 R3.out.box
                have ls := lt_of_heap R3.out.box
                have hw0 : w.heap.size + 3 ≤ wc.heap.size := by have := lt_of_heap R0.out.box; omega
                have hr4 : inoI.RecRow w3 (w.heap.size + 3) v8' _ := ownsRow_mono hr3 hw0
                have HLn := Lib.hid (show (L ++ [(⟨(m : Int) + 1, gm + 1, (i : Int), true⟩ : inoI.Rec)]).length = l8 + 1 by rw [List.length_append, ← HL8.out]; rfl)
                obtain ⟨a8', c8', rfl, -⟩ := inoI.RecRow.form hr3
                rw [HLn.out] at hr4 ⊢
                have R4 := Lib.hid (((R3.out.put hr4).grow (((Ext.refl _).alloc (.cells #[.int .i64 N, .slice a8' (l8 + 1) c8'] 51)).alloc (.cells #[.int .i64 ((m : Int) + 1), .int .i64 (gm + 1)] 29))))
                clear hx3 hr3 hr4 hw0
                go_wp2_with fail
                refine (HAdd.out _ R4.out.tab).mono ?_
                rintro r w5 ⟨rfl, ht5, hu5⟩

                have B4 : Hid (((((w3.setCell ⟨b8, 0, none⟩ (.int .i64 N)).setCell ⟨b8, 1, none⟩ (.slice a8' (l8 + 1) c8')).alloc (.cells #[.int .i64 N, .slice a8' (l8 + 1) c8'] 51)).alloc (.cells #[.int .i64 ((m : Int) + 1), .int .i64 (gm + 1)] 29)).heap[w3.heap.size + 1]? = some (.cells #[.int .i64 ((m : Int) + 1), .int .i64 (gm + 1)] 29 (0, 0))) := by
                  have := heap_alloc2_new ((w3.setCell ⟨b8, 0, none⟩ (.int .i64 N)).setCell ⟨b8, 1, none⟩ (.slice a8' (l8 + 1) c8')) (.cells #[.int .i64 N, .slice a8' (l8 + 1) c8'] 51) (.cells #[.int .i64 ((m : Int) + 1), .int .i64 (gm + 1)] 29)
                  exact Lib.hid (by simpa using this)
                have B5 := Lib.hid (hu5.heap B4.out (by simp; have := lt_of_heap R3.out.tab.var; omega))
                have R5 := Lib.hid (R4.out.retab ht5 hu5)
                clear ht5 hu5
                have hb5 : w.heap.size + 3 ≤ w5.heap.size := by have := lt_of_heap R5.out.box; have := R5.out.far; omega
                have R6 := Lib.hid (R5.out.grow ((Ext.refl w5).alloc (.cells #[.int .i64 ((m : Int) + 1), .int .i64 (gm + 1)] 29)))
                obtain ⟨v9', w7, r1, r2, r3⟩ := R6.out.all.push (by rw [← HM9.out]; omega) (by simp; omega) ((m : Int) + 1) (gm + 1) 38
                simp only [World.size_alloc] at r1
                have HHn := Lib.hid (show (hs ++ [(((m : Int) + 1 : Int), (gm + 1 : Int))]).length = m9 + 1 by rw [List.length_append, ← HM9.out]; rfl)
                have R7 := Lib.hid (R6.out.reall r2 r3)
                obtain ⟨a9', c9', rfl, -⟩ := r2.form
                rw [HHn.out] at r1 R7
                have RN := Lib.hid r1
                obtain ⟨z0, z1, -, -⟩ := blk2 B5.out
                have lz := lt_of_heap B5.out
                clear r1 r2 r3 s0 s1 s2 s3 y0 y1 B4 B5

                obtain ⟨s0, s1, s2, s3⟩ := blk2 R7.out.box
                have ls := lt_of_heap R7.out.box
                go_wp2_with (at_builtin; refine wpList_append_run rfl (.tmp 97) (.tmp 99) _ rfl _ _ _ rfl rfl RN.out ?_)
                refine (inoI.like_any _ _ _ _ _ R7.out.tab N (by omega) _ _ (L ++ [⟨(m : Int) + 1, gm + 1, (i : Int), true⟩]) R7.out.row (by rw [HLn.out]; omega) HI5.out).mono ?_
                rintro r w9 ⟨rfl, hx9⟩
                have HN9 := Lib.hid (show PlayW w N b8 (i + 1) (.slice a9' (m9 + 1) c9') w9 from ⟨_, (L ++ [⟨(m : Int) + 1, gm + 1, (i : Int), true⟩]), (hs ++ [((m : Int) + 1, gm + 1)]), _, R7.out.grow hx9, HI5.out, by rw [HLn.out]; omega, by rw [HHn.out]; omega⟩)
                clear hx9
                go_wp2_with fail
                go_roundw
                case rel => exact ⟨i + 1, by omega, by omega, by go_num, HN9.out⟩
                case measure => simp [intOf]; omega
              · have hlen := HI.out.len
                have HFr := Lib.hid (HI.out.freeOver hall)
                have HAdd := Lib.hid (fun W hW => inoI.add_full (w.heap.size + 1) (w.heap.size + 2) w.heap.size ps W (i : Int) hW hall)
                clear hall hlen
                go_wp2_with fail
                refine (inoI.refAdd_full _ _ N (by omega) _ L R0.out.row (by rw [← HL8.out]; omega) (i : Int) N (by omega) (by omega) HFr.out).mono ?_
                rintro r w3 ⟨rfl, hx3⟩
                have R3 := Lib.hid (R0.out.grow hx3)
                obtain ⟨s0, s1, s2, s3⟩ := blk2 R3.out.box
                have ls := lt_of_heap R3.out.box
                have R4 := Lib.hid (((R3.out.put R3.out.row).grow (((Ext.refl _).alloc (.cells #[.int .i64 N, .slice a8 l8 c8] 51)).alloc (.cells #[.int .i64 0, .int .i64 0] 29))))
                clear hx3
                go_wp2_with fail
                refine (HAdd.out _ R4.out.tab).mono ?_
                rintro r w5 ⟨rfl, hx5⟩

                have B4 : Hid (((((w3.setCell ⟨b8, 0, none⟩ (.int .i64 N)).setCell ⟨b8, 1, none⟩ (.slice a8 l8 c8)).alloc (.cells #[.int .i64 N, .slice a8 l8 c8] 51)).alloc (.cells #[.int .i64 (0), .int .i64 (0)] 29)).heap[w3.heap.size + 1]? = some (.cells #[.int .i64 (0), .int .i64 (0)] 29 (0, 0))) := by
                  have := heap_alloc2_new ((w3.setCell ⟨b8, 0, none⟩ (.int .i64 N)).setCell ⟨b8, 1, none⟩ (.slice a8 l8 c8)) (.cells #[.int .i64 N, .slice a8 l8 c8] 51) (.cells #[.int .i64 (0), .int .i64 (0)] 29)
                  exact Lib.hid (by simpa using this)
                have B5 := Lib.hid (hx5.heap B4.out)
                have R5 := Lib.hid (R4.out.grow hx5)
                clear hx5
                have hb5 : w.heap.size + 3 ≤ w5.heap.size := by have := lt_of_heap R5.out.box; have := R5.out.far; omega
                have R6 := Lib.hid (R5.out.grow ((Ext.refl w5).alloc (.cells #[.int .i64 (0), .int .i64 (0)] 29)))
                obtain ⟨v9', w7, r1, r2, r3⟩ := R6.out.all.push (by rw [← HM9.out]; omega) (by simp; omega) (0) (0) 38
                simp only [World.size_alloc] at r1
                have HHn := Lib.hid (show (hs ++ [((0 : Int), (0 : Int))]).length = m9 + 1 by rw [List.length_append, ← HM9.out]; rfl)
                have R7 := Lib.hid (R6.out.reall r2 r3)
                obtain ⟨a9', c9', rfl, -⟩ := r2.form
                rw [HHn.out] at r1 R7
                have RN := Lib.hid r1
                obtain ⟨z0, z1, -, -⟩ := blk2 B5.out
                have lz := lt_of_heap B5.out
                clear r1 r2 r3 s0 s1 s2 s3 y0 y1 B4 B5

                obtain ⟨s0, s1, s2, s3⟩ := blk2 R7.out.box
                have ls := lt_of_heap R7.out.box
                go_wp2_with (at_builtin; refine wpList_append_run rfl (.tmp 97) (.tmp 99) _ rfl _ _ _ rfl rfl RN.out ?_)
                refine (inoI.like_any _ _ _ _ _ R7.out.tab N (by omega) _ _ L R7.out.row (by rw [← HL8.out]; omega) HI.out).mono ?_
                rintro r w9 ⟨rfl, hx9⟩
                have HN9 := Lib.hid (show PlayW w N b8 (i + 1) (.slice a9' (m9 + 1) c9') w9 from ⟨_, L, (hs ++ [(0, 0)]), _, R7.out.grow hx9, HI.out, by rw [← HL8.out]; omega, by rw [HHn.out]; omega⟩)
                clear hx9
                go_wp2_with fail
                go_roundw
                case rel => exact ⟨i + 1, by omega, by omega, by go_num, HN9.out⟩
                case measure => simp [intOf]; omega
    · have hall : (decide (i < len) = true ∧ decide ((i : Int) < 24) = false) ∨ decide (i < len) = false := by
        by_cases h5 : len ≤ i
        · right; simp; omega
        · left; exact ⟨by simp; omega, by simp; omega⟩
      rcases hall with ⟨hd, hd2⟩ | hd
      all_goals
        go_wp2_with fail
        refine (lives_any _).mono ?_
        rintro r w9 ⟨rfl, hx9⟩
        go_wp2_with fail
        go_ret
        exact ⟨rfl, HS.out.ext.trans hx9⟩
end Go.Proofs.Ytmdacpkkglhefaa
