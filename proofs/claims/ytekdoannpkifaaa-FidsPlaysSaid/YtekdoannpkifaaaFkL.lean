/- The walk of the law FidsRow. -/
import Derived.Test.YtekdoannpkifaaaFkK
import Derived.Deep.CutRange
namespace Go.Proofs.Ytekdoannpkifaaa
open Go.ChangeShapes Go.WideShapes Go.ChangeAt Go.RowKit

theorem keep3e {o w w' : World} {p q r : Addr} {a b c : Value} (h : w.cell? p = some a ∧ w.cell? q = some b ∧ w.cell? r = some c ∧ Ext o w) (hx : Ext w w') : w'.cell? p = some a ∧ w'.cell? q = some b ∧ w'.cell? r = some c ∧ Ext o w' := ⟨hx.cell h.1, hx.cell h.2.1, hx.cell h.2.2.1, h.2.2.2.trans hx⟩

theorem keep3s {o w : World} {p q r : Addr} {a b c : Value} {k : Nat} {x y : Value} (h : w.cell? p = some a ∧ w.cell? q = some b ∧ w.cell? r = some c ∧ Ext o w) (hp : p.block ≠ k) (hq : q.block ≠ k) (hr : r.block ≠ k) (ho : o.heap.size ≤ k) :
    ((w.setCell ⟨k, 0, none⟩ x).setCell ⟨k, 1, none⟩ y).cell? p = some a ∧ ((w.setCell ⟨k, 0, none⟩ x).setCell ⟨k, 1, none⟩ y).cell? q = some b ∧ ((w.setCell ⟨k, 0, none⟩ x).setCell ⟨k, 1, none⟩ y).cell? r = some c ∧ Ext o ((w.setCell ⟨k, 0, none⟩ x).setCell ⟨k, 1, none⟩ y) := by
  have u : Upd [k] w ((w.setCell ⟨k, 0, none⟩ x).setCell ⟨k, 1, none⟩ y) := ((Upd.refl [k] w).setCell _ _ (by simp)).setCell _ _ (by simp)
  exact ⟨u.cell h.1 (by simpa using hp), u.cell h.2.1 (by simpa using hq), u.cell h.2.2.1 (by simpa using hr), u.ext h.2.2.2 (by simpa using ho)⟩
set_option maxRecDepth 100000 in
set_option maxHeartbeats 8000000 in
theorem fidsRow_walk (w : World) (la : Option Addr) (len cap : Nat) (zs : List Int) (w0 : IsRow .i64 w la len cap zs) :
    Calls Try.prog 6 #[.slice la len cap] w fun r w' => r = .returned (.bool true) ∧ Ext w w' := by
  have W1 := Lib.hid w0
  clear w0
  go_enter Try.func6, Try.ntmps6
  go_wp2_with fail
  refine (new_yes 16 w (by omega) (by omega)).mono ?_
  rintro r wa ⟨rfl, hma, hxa⟩
  obtain ⟨b8, hb8⟩ : ∃ b8, b8 = wa.heap.size := ⟨_, rfl⟩
  have hb8l : w.heap.size + 1 < b8 := by rw [hb8]; exact lt_of_heap hma.ptr
  have M0 := Lib.hid (show FPlay w 16 b8 (wa.alloc (.cells #[.int .i64 16, .slice none 0 0] 43)) [] [] (.slice none 0 0) from
    ⟨hma.ext ((Ext.refl wa).alloc _), by rw [hb8]; exact heap_alloc_new wa _, PRow.nil _ _, Inv.nil, hxa.alloc _, hb8l⟩)
  clear hma hxa
  go_wp2_with fail
  rw [← hb8]
  clear hb8
  go_loopw [6] (fun v6 wr => ∃ (i : Nat) (l L : List (Int × FV)) (v8 : Value), i ≤ 12 ∧ i ≤ len ∧ v6 = .int .i64 i ∧ FPlay w 16 b8 wr l L v8 ∧ l.length ≤ i) (fun v6 _ => 12 - (RowKit.intOf v6).toNat)
  case atStart => exact ⟨0, [], [], _, by omega, by omega, rfl, M0.out, by simp⟩
  case round =>
    obtain ⟨i, l, L, v8, hi12, hil, rfl, hP, hlen⟩ := hrel
    have hcl := W1.out.2.1
    have hcm := W1.out.2.2.1
    unfold maxLen at hcm
    clear M0
    by_cases hlt : i < len ∧ i < 12
    · have hd1 : decide ((i : Int) < (len : Int)) = true := by simp; omega
      have hd2 : decide ((i : Int) < 12) = true := by simp; omega
      have hi0 : (0 : Int) ≤ (i : Int) := by omega
      have hi1 : (i : Int) < (len : Int) := by omega
      obtain ⟨g, o, rfl, q00⟩ := W1.out.at_ hlt.1
      have hgl := World.block_lt_of_cell? _ _ q00
      simp only at hgl
      have q0 := hP.ext.cell q00
      have hgw := Nat.lt_of_lt_of_le hgl hP.ext.size
      clear q00
      generalize zs.getD i 0 = z at *
      obtain ⟨e, l', L', hI', hl1, -, hRf, hMt⟩ := add_both w 16 b8 wr l L v8 hP (by omega) z ⟨0, 0, 0, 0, ⟨#[]⟩, false, false, 0, 0, i⟩
      have HRf := Lib.hid (show ∀ W', Ext wr W' → Calls Try.prog 15 #[.agg #[.int .i64 16, v8], .int .i64 z, .agg #[.int .i64 0, .int .i64 0, .int .i64 0, .int .i64 0, .string ⟨#[]⟩, .bool false, .bool false, .int .i64 0, .int .i64 0, .int .i64 i]] W' fun r w' => ∃ a c, r = .returned (.tuple #[.agg #[.int .i64 16, .slice a L'.length c], .int .i64 e]) ∧ PRow w' (w.heap.size + 2) (.slice a L'.length c) L' ∧ Ext W' w' from hRf)
      have HMt := Lib.hid (show ∀ W', FidW W' (w.heap.size + 1) w.heap.size 16 l → Calls Try.prog 10 #[.pointer (some ⟨w.heap.size + 1, 0, none⟩), .int .i64 z, .agg #[.int .i64 0, .int .i64 0, .int .i64 0, .int .i64 0, .string ⟨#[]⟩, .bool false, .bool false, .int .i64 0, .int .i64 0, .int .i64 i]] W' fun r w' => r = .returned (.int .i64 e) ∧ FidW w' (w.heap.size + 1) w.heap.size 16 l' ∧ Upd [w.heap.size + 1, w.heap.size] W' w' from hMt)
      have HI' := Lib.hid hI'
      have HP := Lib.hid hP
      obtain ⟨a8, c8, rfl, -⟩ := hP.row.form
      obtain ⟨m8, hm8⟩ : ∃ m8, m8 = L.length := ⟨_, rfl⟩
      rw [← hm8] at HRf HP
      clear hm8
      obtain ⟨m2, hm2⟩ : ∃ m2, m2 = L'.length := ⟨_, rfl⟩
      rw [← hm2] at HRf
      clear hm2
      obtain ⟨s0, s1, -, -⟩ := blk2 HP.out.box
      have ls := lt_of_heap HP.out.box
      clear hP hRf hMt hI'
      go_upto_region 8 with (fail)
      go_cut [7, 8] (fun s7 s8 wx => ∃ (b7 : Nat) (a2 : Option Addr) (c2 : Nat), s7 = .pointer (some ⟨b7, 0, none⟩) ∧ s8 = .int .i64 e ∧ wr.heap.size ≤ b7 ∧ wx.heap[b7]? = some (.cells #[.int .i64 16, .slice a2 m2 c2] 43 (0, 0)) ∧ PRow wx (w.heap.size + 2) (.slice a2 m2 c2) L' ∧ Ext wr wx)
      case first =>
        have n1 : b8 ≠ wr.heap.size := by omega
        have n2 : g ≠ wr.heap.size := by omega
        go_region_held3 (fun w' => w'.cell? ⟨b8, 0, none⟩ = some (.int .i64 16) ∧ w'.cell? ⟨b8, 1, none⟩ = some (.slice a8 m8 c8) ∧ w'.cell? ⟨g, o + i, none⟩ = some (.int .i64 z) ∧ Ext wr w') (first | exact ⟨s0, s1, q0, drew_ext wr⟩ | exact ⟨(((Ext.refl wr).drew).alloc _).cell s0, (((Ext.refl wr).drew).alloc _).cell s1, (((Ext.refl wr).drew).alloc _).cell q0, ((Ext.refl wr).drew).alloc _⟩ | exact hS3 | exact keep3e hS3 ((Ext.refl _).alloc _) | exact keep3s hS3 n1 n1 n2 (Nat.le_refl _) | assumption) (first | (go_at_call 15; refine (HRf.out _ (And.right (And.right (And.right (by assumption))))).mono ?_; rintro r w3 ⟨a2, c2, rfl, hr3, hx3⟩; have hS3 := keep3e (p := ⟨b8, 0, none⟩) (q := ⟨b8, 1, none⟩) (r := ⟨g, o + i, none⟩) (a := .int .i64 16) (b := .slice a8 m8 c8) (c := .int .i64 z) (o := wr) (by assumption) hx3; (try (have hb7 : w3.heap[wr.heap.size]? = some (.cells #[.int .i64 0, .slice none 0 0] 43 (0, 0)) := hx3.heap (heap_alloc_new wr.drew _); obtain ⟨t0, t1, t2, t3⟩ := blk2 hb7; have l7 := lt_of_heap hb7))))
        · have hE3 : Ext wr w3 := hS3.2.2.2
          have hsz := hE3.size
          have hr4 := hr3.ext ((Ext.refl w3).alloc (.cells #[.int .i64 16, .slice a2 m2 c2] 43))
          have hb4 := heap_alloc_new w3 (.cells #[.int .i64 16, .slice a2 m2 c2] 43)
          have HZ := Lib.hid (show wr.heap.size ≤ w3.heap.size ∧ (w3.alloc (.cells #[.int .i64 16, .slice a2 m2 c2] 43)).heap[w3.heap.size]? = some (.cells #[.int .i64 16, .slice a2 m2 c2] 43 (0, 0)) ∧ PRow (w3.alloc (.cells #[.int .i64 16, .slice a2 m2 c2] 43)) (w.heap.size + 2) (.slice a2 m2 c2) L' ∧ Ext wr (w3.alloc (.cells #[.int .i64 16, .slice a2 m2 c2] 43)) from ⟨hsz, hb4, hr4, hE3.alloc _⟩)
          clear hr3 hx3 hS3 hE3
          go_wp2_with fail
          go_meet
          exact ⟨_, a2, c2, rfl, rfl, HZ.out.1, HZ.out.2.1, HZ.out.2.2.1, HZ.out.2.2.2⟩
        · have hE3 : Ext wr w3 := hS3.2.2.2
          have u : Upd [wr.heap.size] w3 ((w3.setCell ⟨wr.heap.size, 0, none⟩ (.int .i64 16)).setCell ⟨wr.heap.size, 1, none⟩ (.slice a2 m2 c2)) := ((Upd.refl [wr.heap.size] w3).setCell _ _ (by simp)).setCell _ _ (by simp)
          have HZ := Lib.hid (show ((w3.setCell ⟨wr.heap.size, 0, none⟩ (.int .i64 16)).setCell ⟨wr.heap.size, 1, none⟩ (.slice a2 m2 c2)).heap[wr.heap.size]? = some (.cells #[.int .i64 16, .slice a2 m2 c2] 43 (0, 0)) ∧ PRow ((w3.setCell ⟨wr.heap.size, 0, none⟩ (.int .i64 16)).setCell ⟨wr.heap.size, 1, none⟩ (.slice a2 m2 c2)) (w.heap.size + 2) (.slice a2 m2 c2) L' ∧ Ext wr ((w3.setCell ⟨wr.heap.size, 0, none⟩ (.int .i64 16)).setCell ⟨wr.heap.size, 1, none⟩ (.slice a2 m2 c2)) from
            ⟨by rw [heap_setCell_same _ _ _ _ _ _ (heap_setCell_same _ _ _ _ _ _ hb7)]; rfl, ownsRow_upd hr3 u (fun q hq hm => by simp at hm; subst hm; exact ownsRow_ne hr3 hb7 (by decide) hq), u.ext hE3 (by simp)⟩)
          clear hr3 hx3 hS3 hE3
          go_wp2_with fail
          go_meet
          exact ⟨_, a2, c2, rfl, rfl, Nat.le_refl _, HZ.out.1, HZ.out.2.1, HZ.out.2.2⟩
      case rest =>
        obtain ⟨b7, a2, c2, rfl, rfl, hb7l, hb7, hr2, hx2⟩ := hcut
        obtain ⟨hmu, hfin⟩ := HP.out.two hx2 hr2 (Nat.le_refl _) (Ext.refl _)
        have HMu := Lib.hid hmu
        have HFin := Lib.hid hfin
        obtain ⟨t0, t1, -, -⟩ := blk2 hb7
        obtain ⟨y0, y1, y2, y3⟩ := blk2 (hx2.heap HP.out.box)
        have q1 := hx2.cell q0
        have lb := lt_of_heap (hx2.heap HP.out.box)
        have l7 := lt_of_heap hb7
        have hne : b7 ≠ b8 := by omega
        have hne' : b8 ≠ b7 := by omega
        have hg8 : g ≠ b8 := by omega
        have hg8' : b8 ≠ g := by omega
        have hgc : g < wc.heap.size := Nat.lt_of_lt_of_le hgw hx2.size
        clear hmu hfin hb7 hr2 hx2 s0 s1 q0 ls
        go_wp2_with fail
        refine (HMt.out _ HMu.out).mono ?_
        rintro r w5 ⟨rfl, hm5, hu5⟩
        have HN := Lib.hid (HFin.out _ _ hm5 hu5 HI'.out)
        clear hm5 hu5
        go_wp2_with fail
        go_roundw
        case rel => exact ⟨i + 1, l', L', _, by omega, by omega, by go_num, HN.out, by omega⟩
        case measure => simp [RowKit.intOf]; omega
    · have hall : (decide (i < len) = true ∧ decide ((i : Int) < 12) = false) ∨ decide (i < len) = false := by
        by_cases h5 : len ≤ i
        · right; simp; omega
        · left; exact ⟨by simp; omega, by simp; omega⟩
      have HP := Lib.hid hP
      have hl12 : l.length ≤ 12 := by omega
      clear hP
      rcases hall with ⟨hd, hd2⟩ | hd
      all_goals
        go_wp2_with fail
        refine (all_any _ _ _ _ _ HP.out.fid hl12).mono ?_
        rintro r w2 ⟨v9, ys, rfl, hp, hR, hu, hx⟩
        have hys := HP.out.inv.all hp hR
        subst hys
        have HU := Lib.hid hu
        have HP2 := Lib.hid (HP.out.grow hx)
        obtain ⟨a9, c9, rfl, hc9, hm9, -⟩ := hu.form
        obtain ⟨m9, hm9'⟩ : ∃ m9, m9 = (L.map (·.1)).length := ⟨_, rfl⟩
        rw [← hm9'] at HU hc9 ⊢
        have HM9 := Lib.hid hm9'
        unfold maxLen at hm9
        have hm12 : m9 ≤ 12 := by rw [hm9', List.length_map, HP.out.inv.len]; exact hl12
        clear hp hR hu hx hm9'
        go_wp2_with fail
        go_loopw [10] (fun v10 wr => ∃ k : Nat, (k : Int) ≤ 12 ∧ v10 = .int .i64 ((k : Int) + 1) ∧ Ext w2 wr) (fun v10 _ => 12 - (RowKit.intOf v10).toNat)
        case atStart => exact ⟨0, by omega, rfl, Ext.refl _⟩
        case round =>
          obtain ⟨k, hk12, rfl, hX⟩ := hrel
          have HX := Lib.hid hX
          clear hX
          by_cases hkm : k + 1 < m9
          · have hd3 : decide ((k : Int) + 1 < (m9 : Int)) = true := by simp; omega
            obtain ⟨a', c', e5, -, -, hc⟩ := (HU.out.ext HX.out).form
            injection e5 with e1 e2 e3
            subst e1 e3
            clear e2
            have hkl : k + 1 < (L.map (·.1)).length := by rw [← HM9.out]; exact hkm
            obtain ⟨g9, rfl, hg9, u0, -⟩ := hc k (by omega)
            obtain ⟨g9', eg, -, u1, -⟩ := hc (k + 1) hkl
            injection eg with eg
            injection eg with eg
            subst eg
            have hlt9 : (L.map (·.1))[k] < (L.map (·.1))[k + 1] := by
              rw [List.getElem_map, List.getElem_map]
              exact List.pairwise_iff_getElem.1 HP.out.inv.ord k (k + 1) _ _ (by omega)
            generalize (L.map (·.1))[k] = ya at *
            generalize (L.map (·.1))[k + 1] = yb at *
            have hge9 : decide (yb ≤ ya) = false := by simp; omega
            have hk0 : (0 : Int) ≤ (k : Int) := by omega
            have hk1 : (k : Int) < (m9 : Int) := by omega
            have hk2 : (k : Int) + 1 < (m9 : Int) := by omega
            have hk3 : (0 : Int) ≤ (k : Int) + 1 := by omega
            have hw1 : IntKind.i64.wrap ((k : Int) + 1) = (k : Int) + 1 := IntWalk.i64_in _ (by omega)
            have hw2 : IntKind.i64.wrap ((k : Int) + 1 - 1) = (k : Int) := by rw [show (k : Int) + 1 - 1 = k by omega]; exact IntWalk.i64_in _ (by omega)
            have htn : ((k : Int) + 1).toNat = k + 1 := by omega
            clear hc hlt9 hkl
            go_wp2_with fail
            go_quiet (fail)
            clear htn hw1 hw2
            go_wp2_with fail
            go_roundw
            case rel => exact ⟨k + 1, by omega, by go_num, HX.out.drewN _⟩
            case measure => simp [RowKit.intOf]; omega
          · have hd3 : decide ((k : Int) + 1 < (m9 : Int)) = false := by simp; omega
            have P3 := Lib.hid (HP2.out.grow HX.out)
            obtain ⟨s0, s1, -, -⟩ := blk2 P3.out.box
            have ls := lt_of_heap P3.out.box
            clear HP2 HU
            go_wp2_with fail
            refine (like_any _ _ _ _ _ P3.out.fid hl12 _ _ _ P3.out.row P3.out.inv).mono ?_
            rintro r w4 ⟨rfl, hx4⟩
            have P4 := Lib.hid (P3.out.grow hx4)
            clear hx4 s0 s1 ls
            go_wp2_with fail
            refine (clear_any _ _ _ _ _ P4.out.fid).mono ?_
            rintro r w5 ⟨rfl, hm5, hu5⟩
            have M5 := Lib.hid hm5
            have E5 := Lib.hid (hu5.ext P4.out.ext (by simp))
            clear hm5 hu5
            go_wp2_with fail
            refine (len_any _ _ _ _ _ M5.out).mono ?_
            rintro r w6 ⟨rfl, rfl⟩
            go_wp2_with fail
            refine (all_any _ _ _ _ _ M5.out (by simp)).mono ?_
            rintro r w7 ⟨v7, ys7, rfl, hp7, -, hu7, hx7⟩
            obtain rfl : ys7 = [] := by simpa using hp7
            obtain ⟨a7, c7, rfl, -⟩ := hu7.form
            have E7 := Lib.hid (E5.out.trans hx7)
            clear hp7 hu7 hx7
            go_wp2_with fail
            refine (lives_any _).mono ?_
            rintro r w8 ⟨rfl, hx8⟩
            go_wp2_with fail
            go_ret
            exact ⟨rfl, E7.out.trans hx8⟩
end Go.Proofs.Ytekdoannpkifaaa
