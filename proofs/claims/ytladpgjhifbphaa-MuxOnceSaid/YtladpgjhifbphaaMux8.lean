/- The walk of the law MuxOnce. -/
import Derived.Test.YtladpgjhifbphaaMux7
namespace Go.Proofs.Ytladpgjhifbphaa
open Go.ChangeShapes Go.WideShapes Go.ChangeAt Go.RowKit

theorem procOf_in (zs : List Int) (i : Nat) (h : i < zs.length) : procOf zs i = arnd (zs.getD i 0) 4 := by unfold procOf; rw [if_pos h]
theorem procOf_out (zs : List Int) (i : Nat) (h : ¬ i < zs.length) : procOf zs i = 0 := by unfold procOf; rw [if_neg h]

set_option maxRecDepth 100000 in
set_option maxHeartbeats 4000000 in
theorem muxOnce_walk (w : World) (first : Int) (w0 : (Lit.int .u32 first).wf = true) (many : Int) (w1 : (Lit.int .i64 many).wf = true)
    (a2 : Option Addr) (len2 cap2 : Nat) (z2 : List Int) (r2 : IsRow .i64 w a2 len2 cap2 z2) (a3 : Option Addr) (len3 cap3 : Nat) (z3 : List Int) (r3 : IsRow .i64 w a3 len3 cap3 z3) :
    Calls Try.prog 3 #[.int .u32 first, .int .i64 many, .slice a2 len2 cap2, .slice a3 len3 cap3] w fun r w' => r = .returned (.bool true) ∧ Ext w w' := by
  have hf := wf_u32 w0
  have hm := wf_i64 w1
  have hab := arnd_bd many 16 (by omega)
  obtain ⟨k', hk'⟩ := Int.eq_ofNat_of_zero_le hab.1
  obtain ⟨k, hk⟩ : ∃ k, k = k' + 1 := ⟨_, rfl⟩
  have hk1 : 1 ≤ k := by omega
  have hk16 : k ≤ 16 := by omega
  have HA := Lib.hid (show ∀ W, Calls Try.prog 9 #[.int .i64 many, .int .i64 16] W fun r w' => r = .returned (.int .i64 ((k : Nat) - 1)) ∧ W = w' from
    fun W => (around_any many 16 W (by omega) hm.1 hm.2).mono fun r w' h => by rw [show ((k : Nat) : Int) - 1 = arnd many 16 by omega]; exact h)
  have hl2 : len2 ≤ 9223372036854775807 := by have h2 := r2.2.1; have h3 := r2.2.2.1; unfold maxLen at h3; omega
  have hl3 : len3 ≤ 9223372036854775807 := by have h2 := r3.2.1; have h3 := r3.2.2.1; unfold maxLen at h3; omega
  have R2 := Lib.hid r2
  have R3 := Lib.hid r3
  clear w0 w1 hk' hk hab hm r2 r3
  go_enter Try.func3, Try.ntmps3
  go_wp2_with fail
  refine (HA.out _).mono ?_
  rintro r wb ⟨rfl, rfl⟩
  go_wp2_with fail
  rw [show (1 + ((k : Int) - 1)) = (k : Int) by omega]
  refine (new_yes first k w (by omega) (by omega)).mono ?_
  rintro r wa ⟨rfl, hma, hxa⟩
  have MA := Lib.hid hma
  have XA := Lib.hid hxa
  clear hma hxa
  go_wp2_with fail
  go_loopw [12, 13, 14] (fun v12 v13 v14 wr => ∃ i : Nat, i ≤ k ∧ v14 = .int .i64 i ∧ OnceRel w first z2 k i v12 v13 wr) (fun _ _ v14 _ => k - (intOf v14).toNat)
  case atStart => exact ⟨0, by omega, rfl, by rw [show (first + (0 : Nat)) % 4294967296 = first by omega]; exact MA.out, Owns.nil _ _ _, Owns.nil _ _ _, (by simp [Value.ownBlock]), XA.out⟩
  case round =>
    obtain ⟨i, hi, rfl, HR⟩ := hrel
    obtain ⟨ax, cx, hxv⟩ := HR.xs.slice
    obtain ⟨ap, cp, hpv⟩ := HR.ps.slice
    rw [xvals_len] at hxv
    rw [pvals_len] at hpv
    by_cases hlt : i < k
    · have hd : decide ((i : Int) < (k : Int)) = true := by simp; omega
      have hpb := procOf_bd z2 i
      -- the procedure, then the call
      have HC := Lib.hid (show ∀ W, Ext wr W → Calls Try.prog 11 #[.pointer (some ⟨w.heap.size + 1, 0, none⟩), .int .u32 (procOf z2 i), .int .i64 i] W fun r w' =>
          r = .returned (.tuple #[.int .u32 ((first + i) % 4294967296), .int .i64 0]) ∧ ∃ xv' w3 pv' w4, (Builtin.append_ #[29, 29] 29 #[.slice ax i cx, .slice (some ⟨w'.heap.size, 0, none⟩) 1 1]).run Try.prog (w'.alloc (.cells #[.int .u32 ((first + i) % 4294967296)] 22)) = .ok xv' w3 ∧
            (Builtin.append_ #[29, 29] 29 #[.slice ap i cp, .slice (some ⟨w3.heap.size, 0, none⟩) 1 1]).run Try.prog (w3.alloc (.cells #[.int .u32 (procOf z2 i)] 22)) = .ok pv' w4 ∧ OnceRel w first z2 k (i + 1) xv' pv' w4 ∧
            Owns w' (w.heap.size + 2) 22 (.slice ax i cx) (xvals first i) from
        fun W hW => (call_at _ _ _ _ _ (procOf z2 i) i _ (HR.mux.ext hW) (by rw [entL_len]; omega) (by omega) (by omega) 0 (entL_free first z2 i (by omega)) (by omega) ((first + i) % 4294967296) ((first + (i + 1 : Nat)) % 4294967296) (by omega) (by omega)).mono fun r w' h => by
          obtain ⟨h1, h2, h3⟩ := h
          have hxs := HR.xs.ext hW
          have hps := HR.ps.ext hW
          have hdis := HR.dis
          rw [hxv] at hxs hdis
          rw [hpv] at hps hdis
          have hlx : ∀ g, (Value.slice ax i cx).ownBlock = some g → g ∉ [w.heap.size + 1, w.heap.size] := fun g hg => by have := (hxs.lt hg).1; simp; omega
          have hlp : ∀ g, (Value.slice ap i cp).ownBlock = some g → g ∉ [w.heap.size + 1, w.heap.size] := fun g hg => by have := (hps.lt hg).1; simp; omega
          obtain ⟨xv', w3, pv', w4, q1, q2, q3⟩ := OnceRel.next (w := w) hlt hk16 (by rw [entL_succ]; exact h2) (hxs.upd h3 hlx) (hps.upd h3 hlp) hdis (h3.ext (HR.ext.trans hW) (by simp))
          exact ⟨h1, xv', w3, pv', w4, q1, q2, q3, hxs.upd h3 hlx⟩)
      have HE := Lib.hid HR.ext
      subst hxv hpv
      clear HR
      have hlen2 := R2.out.1
      have HPI := Lib.hid (show i < z2.length → procOf z2 i = arnd (z2.getD i 0) 4 from procOf_in z2 i)
      have HPO := Lib.hid (show ¬ i < z2.length → procOf z2 i = 0 from procOf_out z2 i)
      generalize procOf z2 i = pi at *
      by_cases hin : i < len2
      focus
        have hd2 : decide (i < len2) = true := by simp; omega
        obtain ⟨g2, o2, hg2, hc2⟩ := R2.out.at_ hin
        have hc2' := HE.out.cell hc2
        have hz2 := wf_i64 (R2.out.2.2.2.1 (z2.getD i 0) (by rw [List.getD_eq_getElem?_getD, List.getElem?_eq_getElem (by omega)]; exact List.getElem_mem _))
        have HAr := Lib.hid (show ∀ W, Calls Try.prog 9 #[.int .i64 (z2.getD i 0), .int .i64 4] W fun r w' => r = .returned (.int .i64 pi) ∧ W = w' from
          fun W => by rw [HPI.out (by omega)]; exact around_any _ 4 W (by omega) hz2.1 hz2.2)
        clear HPI HPO
        generalize z2.getD i 0 = zi at *
        subst hg2
        clear hc2 hlen2
        go_wp2_with fail
        refine (HAr.out _).mono ?_
        rintro r wb ⟨rfl, rfl⟩
        clear hc2'
        go_wp2_with fail
      rotate_left
      focus
        have hd2 : decide (i < len2) = false := by simp; omega
        have hp0 := HPO.out (by omega)
        clear HPI HPO hlen2
        subst hp0
        go_wp2_with fail
      all_goals
        refine (HC.out _ (Ext.refl _)).mono ?_
        rintro r w2 ⟨rfl, xv', w3, pv', w4, q1, q2, q3, q4⟩
        have Q1 := Lib.hid q1
        have Q2 := Lib.hid q2
        have Q3 := Lib.hid q3
        have Q4 := Lib.hid q4
        clear q1 q2 q3 q4 HC
        go_wp2_with fail
        go_loop [18] (fun v18 => ∃ q : Nat, q ≤ i ∧ v18 = .int .i64 q) (fun v18 => i - (intOf v18).toNat)
        case atStart => exact ⟨0, by omega, rfl⟩
        case round =>
          obtain ⟨q, hq, rfl⟩ := hrel
          by_cases hqi : q < i
          · have hd3 : decide (q < i) = true := by simp; omega
            obtain ⟨g, cap, hv, hgb, hgl, hn, hm, hcell, _⟩ := Q4.out.cell (i := q) (by rw [xvals_len]; omega)
            rw [xvals_at] at hcell
            have hv1 : ax = some ⟨g, 0, none⟩ := by injection hv
            have hv3 : cx = cap := by injection hv
            subst hv1 hv3
            rw [xvals_len] at hn
            unfold maxLen at hm
            clear hv Q1 Q2 Q3 Q4
            have hne : ((first + q) % 4294967296 == (first + i) % 4294967296) = false := by rw [beq_eq_false_iff_ne]; omega
            go_wp2_with fail
            go_round
            case rel => exact ⟨q + 1, by omega, by go_num⟩
            case measure => simp [intOf]; omega
          · have hd3 : decide (q < i) = false := by simp; omega
            go_wp2_with (first | (at_builtin; refine wpList_append_run rfl (.tmp 79) (.tmp 81) _ rfl _ _ _ rfl rfl Q1.out ?_) | (at_builtin; refine wpList_append_run rfl (.tmp 83) (.tmp 85) _ rfl _ _ _ rfl rfl Q2.out ?_))
            go_roundw
            case rel => exact ⟨i + 1, by omega, by go_num, Q3.out⟩
            case measure => simp [intOf]; omega
    · have hd : decide ((i : Int) < (k : Int)) = false := by simp; omega
      obtain rfl : i = k := by omega
      obtain ⟨gx, capx, hxf, hgx1, hgx2, hcx1, hcx2, _, _⟩ := HR.xs.cell (i := 0) (by rw [xvals_len]; omega)
      obtain ⟨gp, capp, hpf, hgp1, hgp2, hcp1, hcp2, _, _⟩ := HR.ps.cell (i := 0) (by rw [pvals_len]; omega)
      rw [xvals_len] at hxf hcx1
      rw [pvals_len] at hpf hcp1
      have hx1 := hxv.symm.trans hxf
      have hp1 := hpv.symm.trans hpf
      injection hx1 with hx1 hx2 hx3
      injection hp1 with hp1 hp2 hp3
      subst hx1 hx3 hp1 hp3
      have hxs := HR.xs
      have hps := HR.ps
      rw [hxv] at hxs
      rw [hpv] at hps
      have HXS := Lib.hid hxs
      have HPS := Lib.hid hps
      have HM := Lib.hid HR.mux
      have HE := Lib.hid HR.ext
      subst hxv hpv
      unfold maxLen at hcx2 hcp2
      clear HR hxs hps hxf hpf hx2 hp2
      go_wp2_with fail
      refine (call_full _ _ _ _ _ 0 0 _ HM.out (by rw [entL_len]; omega)).mono ?_
      rintro r wc ⟨rfl, hxc⟩
      have M1 := Lib.hid (HM.out.ext hxc)
      have HXS1 := Lib.hid (HXS.out.ext hxc)
      have HPS1 := Lib.hid (HPS.out.ext hxc)
      have E1 := Lib.hid (HE.out.trans hxc)
      have hgxc : gx < wc.heap.size := (HXS1.out.lt rfl).2
      have hgpc : gp < wc.heap.size := (HPS1.out.lt rfl).2
      have hwc : w.heap.size + 1 < wc.heap.size := lt_of_heap M1.out.ptr
      clear hxc HM HXS HPS HE
      have hmk := run_makeBools i hk16
      have hst : DoneRel w (wc.alloc (.cells (Array.replicate i (Value.bool false)) 4)) first z2 i wc.heap.size (List.replicate i false) (wc.alloc (.cells (Array.replicate i (Value.bool false)) 4)) :=
        ⟨⟨_, by rw [remL_start]; exact M1.out.ext ((Ext.refl wc).alloc _)⟩, by simp, by rw [show ((List.replicate i false).map Value.bool).toArray = Array.replicate i (Value.bool false) by simp]; exact heap_alloc_new wc _, Upd.refl _ _⟩
      have HST := Lib.hid hst
      have HCX := Lib.hid (show ∀ q, q < i → (wc.alloc (.cells (Array.replicate i (Value.bool false)) 4)).cell? ⟨gx, q, none⟩ = some (.int .u32 ((first + q) % 4294967296)) from fun q hq => by
        obtain ⟨g, cap, hv, _, _, _, _, hc, _⟩ := (HXS1.out.ext ((Ext.refl wc).alloc (.cells (Array.replicate i (Value.bool false)) 4))).cell (i := q) (by rw [xvals_len]; omega)
        rw [xvals_at] at hc
        injection hv with hv
        injection hv with hv
        injection hv with hv
        subst hv
        exact hc)
      have HCP := Lib.hid (show ∀ q, q < i → (wc.alloc (.cells (Array.replicate i (Value.bool false)) 4)).cell? ⟨gp, q, none⟩ = some (.int .u32 (procOf z2 q)) from fun q hq => by
        obtain ⟨g, cap, hv, _, _, _, _, hc, _⟩ := (HPS1.out.ext ((Ext.refl wc).alloc (.cells (Array.replicate i (Value.bool false)) 4))).cell (i := q) (by rw [pvals_len]; omega)
        rw [pvals_at] at hc
        injection hv with hv
        injection hv with hv
        injection hv with hv
        subst hv
        exact hc)
      have ED := Lib.hid (E1.out.alloc (.cells (Array.replicate i (Value.bool false)) 4))
      clear hst M1 HXS1 HPS1 E1
      go_wp2_with fail
      generalize hwd : wc.alloc (.cells (Array.replicate i (Value.bool false)) 4) = wd at *
      clear hwd hmk
      generalize wc.heap.size = gd at *
      go_loopw [22] (fun v22 wr => ∃ (t : Nat) (D : List Bool), t ≤ len3 ∧ v22 = .int .i64 t ∧ DoneRel w wd first z2 i gd D wr) (fun v22 _ => len3 - (intOf v22).toNat)
      case atStart => exact ⟨0, _, by omega, rfl, HST.out⟩
      case round =>
        obtain ⟨t, D, ht, rfl, HR⟩ := hrel
        obtain ⟨nx, hM⟩ := HR.mux
        have hU := HR.upd
        have hDn := HR.done
        have hDl := HR.len
        have hgd := lt_of_heap hDn
        have HMr := Lib.hid hM
        have HUr := Lib.hid hU
        have HDn := Lib.hid hDn
        have HDl := Lib.hid hDl
        have HEr := Lib.hid (hU.ext ED.out (by simp; omega))
        clear HR hM hU hDn hDl
        by_cases hlt : t < len3
        focus
          have hd1 : decide (t < len3) = true := by simp; omega
          by_cases h20 : t < 20
          focus
            have hd2 : decide ((t : Int) < 20) = true := by simp; omega
            obtain ⟨g3, o3, hg3, hc3⟩ := R3.out.at_ hlt
            have hc3' := HEr.out.cell hc3
            have hz3 := wf_i64 (R3.out.2.2.2.1 (z3.getD t 0) (by rw [List.getD_eq_getElem?_getD, List.getElem?_eq_getElem (by have := R3.out.1; omega)]; exact List.getElem_mem _))
            have hqb := arnd_bd (z3.getD t 0) i (by omega)
            obtain ⟨q, hq⟩ := Int.eq_ofNat_of_zero_le hqb.1
            have hqi : q < i := by omega
            have HAr := Lib.hid (show ∀ W, Calls Try.prog 9 #[.int .i64 (z3.getD t 0), .int .i64 (i : Nat)] W fun r w' => r = .returned (.int .i64 (q : Nat)) ∧ W = w' from
              fun W => by rw [← hq]; exact around_any _ i W (by omega) hz3.1 hz3.2)
            generalize z3.getD t 0 = zt at *
            subst hg3
            have hpq := procOf_bd z2 q
            have hcx := HUr.out.cell (HCX.out q hqi) (by simp; omega)
            have hcp := HUr.out.cell (HCP.out q hqi) (by simp; omega)
            have hqD : q < D.length := by rw [HDl.out]; omega
            have hcd : wr.cell? ⟨gd, q, none⟩ = some (.bool (D.getD q false)) := by
              rw [cell_of HDn.out q]; simp [hqD]
            have hfd : wr.frozen? ⟨gd, q, none⟩ = false := free_of HDn.out q
            clear hc3 hq hqb hz3
            go_wp2_with fail
            refine (HAr.out _).mono ?_
            rintro r wb ⟨rfl, rfl⟩
            clear hc3'
            go_wp2_with fail
            have hxb1 : (0 : Int) ≤ (q : Int) := by omega
            have hxb2 : (q : Int) < (i : Int) := by omega
            have hpw : IntKind.u32.wrap (procOf z2 q + 1) = procOf z2 q + 1 := IntWalk.u32_in _ (by omega)
            cases hDq : D.getD q false
            focus
              have hlk := remL_some (first := first) (zs := z2) hk16 hqi hDq
              have HM1 := Lib.hid (show Calls Try.prog 12 #[.pointer (some ⟨w.heap.size + 1, 0, none⟩), .int .u32 ((first + q) % 4294967296), .int .u32 (procOf z2 q + 1)] wr.drew fun r w' => r = .returned (.tuple #[.int .i64 0, .int .i64 2]) ∧ Ext wr.drew w' from
                match_wrong _ _ _ _ _ _ _ _ _ (HMr.out.ext (drew_ext wr)) hlk (by show procOf z2 q ≠ _; omega))
              have HM2 := Lib.hid (show ∀ W, Ext wr W → Calls Try.prog 12 #[.pointer (some ⟨w.heap.size + 1, 0, none⟩), .int .u32 ((first + q) % 4294967296), .int .u32 (procOf z2 q)] W fun r w' => r = .returned (.tuple #[.int .i64 (q : Nat), .int .i64 0]) ∧
                  MuxW w' (w.heap.size + 1) w.heap.size nx i (remL first z2 i (D.set q true)) ∧ Upd [w.heap.size + 1, w.heap.size] W w' from
                fun W hW => (match_ok _ _ _ _ _ _ (ent first z2 q) _ (HMr.out.ext hW) hlk).mono fun r w' h => ⟨h.1, by have := h.2.1; rw [remL_del hk16 hqi HDl.out] at this; exact this, h.2.2⟩)
              clear hlk
              generalize procOf z2 q = pq at *
              generalize (first + (q : Int)) % 4294967296 = xq at *
              go_region_held3 (fun w' => w'.cell? ⟨gx, q, none⟩ = some (.int .u32 xq) ∧ w'.cell? ⟨gp, q, none⟩ = some (.int .u32 pq) ∧ Ext wr w') (first | exact ⟨hcx, hcp, drew_ext wr⟩ | exact ⟨Ext.cell hx (by simp [*]), Ext.cell hx (by simp [*]), Ext.trans (by simp [*]) hx⟩)
                (first | (go_at_call 12; refine HM1.out.mono ?_; rintro e w' ⟨rfl, hx⟩))
              have h5x : w'.cell? ⟨gx, q, none⟩ = some (.int .u32 xq) := And.left (by assumption)
              have h5p : w'.cell? ⟨gp, q, none⟩ = some (.int .u32 pq) := And.left (And.right (by assumption))
              have h5e : Ext wr w' := And.right (And.right (by assumption))
              clear hx
              go_wp2_with fail
              go_region_held3 (fun w6 => w6.cell? ⟨gx, q, none⟩ = some (.int .u32 xq) ∧ w6.cell? ⟨gp, q, none⟩ = some (.int .u32 pq)) (first | exact ⟨h5x, h5p⟩ | exact ⟨Upd.cell (a := w'.drew) hu h5x (by simp; omega), Upd.cell (a := w'.drew) hu h5p (by simp; omega)⟩)
                (first | (go_at_call 12; refine (HM2.out _ h5e.drew).mono ?_; rintro e w6 ⟨rfl, hm6, hu⟩))
              have hF := Lib.hid ((h5e.drew).upd [w.heap.size + 1, w.heap.size] |>.trans hu)
              have hd6 := hF.out.heap HDn.out (by simp; omega)
              have hcd6 : w6.cell? ⟨gd, q, none⟩ = some (.bool false) := by rw [cell_of hd6 q]; simp [hqD]; simpa [List.getD_eq_getElem?_getD, hqD] using hDq
              have hfd6 : w6.frozen? ⟨gd, q, none⟩ = false := free_of hd6 q
              have hgd6 := lt_of_heap hd6
              have HN := Lib.hid (show DoneRel w wd first z2 i gd (D.set q true) (w6.setCell ⟨gd, q, none⟩ (.bool true)) from
                ⟨⟨nx, hm6.upd ((Upd.refl [gd] w6).setCell _ _ (by simp)) (by simp; omega) (by simp; omega)⟩, by simpa using HDl.out, by rw [heap_setCell_same w6 gd q _ _ _ hd6]; simp [List.map_set],
                 Upd.setCell (HUr.out.trans (hF.out.mono (by simp))) _ _ (by simp)⟩)
              clear hu hm6 hd6 hcx hcp h5x h5p h5e hcd hfd HM1 HM2
              go_wp2_with fail
              go_roundw
              case rel => exact ⟨t + 1, _, by omega, by go_num, HN.out⟩
              case measure => simp [intOf]; omega
            have hlk := remL_none (first := first) (zs := z2) hk16 hqi hDq
            have HM1 := Lib.hid (show ∀ p W, Ext wr W → Calls Try.prog 12 #[.pointer (some ⟨w.heap.size + 1, 0, none⟩), .int .u32 ((first + q) % 4294967296), .int .u32 p] W fun r w' => r = .returned (.tuple #[.int .i64 0, .int .i64 6]) ∧ Ext W w' from
              fun p W hW => match_none _ _ _ _ _ _ _ _ (HMr.out.ext hW) hlk)
            clear hlk
            generalize procOf z2 q = pq at *
            generalize (first + (q : Int)) % 4294967296 = xq at *
            go_region_held3 (fun w' => w'.cell? ⟨gx, q, none⟩ = some (.int .u32 xq) ∧ w'.cell? ⟨gp, q, none⟩ = some (.int .u32 pq) ∧ Ext wr w') (first | exact ⟨hcx, hcp, drew_ext wr⟩ | exact ⟨Ext.cell hx (by simp [*]), Ext.cell hx (by simp [*]), Ext.trans (by simp [*]) hx⟩)
              (first | (go_at_call 12; refine (HM1.out _ _ (drew_ext wr)).mono ?_; rintro e w' ⟨rfl, hx⟩))
            have h5x : w'.cell? ⟨gx, q, none⟩ = some (.int .u32 xq) := And.left (by assumption)
            have h5p : w'.cell? ⟨gp, q, none⟩ = some (.int .u32 pq) := And.left (And.right (by assumption))
            have h5e : Ext wr w' := And.right (And.right (by assumption))
            clear hx
            go_wp2_with fail
            go_region_held3 (fun w6 => w6.cell? ⟨gx, q, none⟩ = some (.int .u32 xq) ∧ w6.cell? ⟨gp, q, none⟩ = some (.int .u32 pq)) (first | exact ⟨h5x, h5p⟩ | exact ⟨Ext.cell (a := w'.drew) hu h5x, Ext.cell (a := w'.drew) hu h5p⟩)
              (first | (go_at_call 12; refine (HM1.out _ _ h5e.drew).mono ?_; rintro e w6 ⟨rfl, hu⟩))
            have hF := Lib.hid ((h5e.drew).trans hu)
            have hd6 := hF.out.heap HDn.out
            have hcd6 : w6.cell? ⟨gd, q, none⟩ = some (.bool true) := by rw [cell_of hd6 q]; simp [hqD]; simpa [List.getD_eq_getElem?_getD, hqD] using hDq
            have HN := Lib.hid (show DoneRel w wd first z2 i gd D w6 from ⟨⟨nx, HMr.out.ext hF.out⟩, HDl.out, hd6, HUr.out.trans (hF.out.upd _)⟩)
            have hgd6 := lt_of_heap hd6
            clear hu hd6 hcx hcp h5x h5p h5e hcd hfd HM1
            go_wp2_with fail
            go_roundw
            case rel => exact ⟨t + 1, _, by omega, by go_num, HN.out⟩
            case measure => simp [intOf]; omega
          have hd2 : decide ((t : Int) < 20) = false := by simp; omega
          go_wp2_with fail
          refine (lives_any _).mono ?_
          rintro r w7 ⟨rfl, hx7⟩
          go_wp2_with fail
          go_ret
          exact ⟨rfl, HEr.out.trans hx7⟩
        have hd1 : decide (t < len3) = false := by simp; omega
        go_wp2_with fail
        refine (lives_any _).mono ?_
        rintro r w7 ⟨rfl, hx7⟩
        go_wp2_with fail
        go_ret
        exact ⟨rfl, HEr.out.trans hx7⟩
end Go.Proofs.Ytladpgjhifbphaa
