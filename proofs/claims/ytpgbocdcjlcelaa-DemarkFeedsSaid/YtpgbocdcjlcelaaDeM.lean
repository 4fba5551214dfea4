/- The walk of the document's answer of all bytes. -/
import Derived.Test.YtpgbocdcjlcelaaDeL
import Derived.Deep.MidRow
namespace Go.Proofs.Ytpgbocdcjlcelaa
open Go.ChangeShapes Go.WideShapes Go.ChangeAt Go.RowKit

section
variable {P : Program} {w w' : World} {ops : Array Oper} {rest : List Oper} {o : Oper} {a : Act} {Q : Exit → Act → World → Prop}
theorem wpList_store_run (hgd : o.guard = none) (t : TypeId) (x y : Operand) (ho : o.op = .store t x y) (xv yv : Value) (hx : a.eval x = xv) (hy : a.eval y = yv)
    (hrun : (Instr.storeAt t xv yv).run P w = .ok () w') (h : wpList P ops Q rest (a.put o.dst undef) w') : wpList P ops Q (o :: rest) a w := by
  refine wpList_plain hgd fun K hK => ?_
  unfold Oper.wp execOp
  simp only [ho, Sem.run_bind, Sem.run_pure, Result.andThen_ok, hx, hy, hrun]
  exact hK _ _ h
end
/-- A struct of four is stored whole. -/
theorem put4 {P : Program} {w : World} {g : Nat} {a0 a1 a2 a3 : Value} {t : TypeId} (h : w.heap[g]? = some (.cells #[a0, a1, a2, a3] t (0, 0))) (v0 v1 v2 v3 : Value) (hi : (P.info? t).map (·.size) = some 4) (h1 : (#[v0, v1, v2, v3] : Array Value).all (·.oneCell') = true) :
    ∃ w', (Instr.storeAt t (.pointer (some ⟨g, 0, none⟩)) (.agg #[v0, v1, v2, v3])).run P w = .ok () w' ∧ w'.heap[g]? = some (.cells #[v0, v1, v2, v3] t (0, 0)) ∧ Upd [g] w w' := by
  obtain ⟨q0, q1, q2, q3, qf⟩ := blk4 h
  refine ⟨_, run_storeAt_mid w g 0 t #[v0, v1, v2, v3] (fun j hj => ?_) hi h1, ?_, ((((Upd.refl [g] w).setCell _ _ (by simp)).setCell _ _ (by simp)).setCell _ _ (by simp)).setCell _ _ (by simp)⟩
  · rw [Nat.zero_add]
    refine ⟨?_, qf j⟩
    have hj' : j < 4 := hj
    match j, hj' with
    | 0, _ => rw [q0]; rfl
    | 1, _ => rw [q1]; rfl
    | 2, _ => rw [q2]; rfl
    | 3, _ => rw [q3]; rfl
  · show ((((w.setCell ⟨g, 0, none⟩ v0).setCell ⟨g, 0 + 1, none⟩ v1).setCell ⟨g, 0 + 1 + 1, none⟩ v2).setCell ⟨g, 0 + 1 + 1 + 1, none⟩ v3).heap[g]? = _
    rw [heap_put _ (heap_put _ (heap_put _ (heap_put _ h)))]
    rfl

set_option maxRecDepth 100000 in
set_option maxHeartbeats 16000000 in
theorem refAll04 (w : World) (a : Option Addr) (n cap : Nat) (zs : List Int) (h : IsRow .u8 w a n cap zs) (hp : Plain a cap) (hn : n ≤ 2000) (m f : Nat) (hm : m ≤ 4096) (hf : f ≤ 64) :
    Calls Try.prog 15 #[.slice a n cap, .int .i64 m, .int .i64 f] w fun r w' => ∃ vL, r = .returned (.agg #[vL, .int .i64 (ref m f zs [] 0 []).e, .int .i64 (ref m f zs [] 0 []).held, .bool (ref m f zs [] 0 []).clean]) ∧ OwnsRows w' w.heap.size vL (ref m f zs [] 0 []).l ∧ Ext w w' := by
  have hcm := h.2.2.1
  have hlc := h.2.1
  have hl := h.1
  unfold maxLen at hcm
  obtain ⟨R, hR⟩ : ∃ R, ref m f zs [] 0 [] = R := ⟨_, rfl⟩
  rw [hR]
  have HR := Lib.hid hR
  have H := Lib.hid h
  have HP := Lib.hid hp
  have HL := Lib.hid hl
  clear h hp hR hl
  go_enter Try.func15, Try.ntmps15
  go_wp2_with fail
  go_loopw [0, 8, 9] (fun v0 v8 v9 wr => ∃ k : Nat, v9 = .int .i64 k ∧ AllW w wr m f v0 v8 R k) (fun v0 _ _ _ => match v0 with | .slice _ l _ => l | _ => 0)
  case atStart =>
    have e1 : (w.alloc (.cells #[.slice none 0 0, .int .i64 0, .int .i64 0, .bool false] 38)).heap.size = w.heap.size + 1 := by simp
    refine ⟨0, rfl, a, cap, zs, [], [], .slice none 0 0, by rw [HL.out], by rw [HL.out]; exact H.out, HP.out, Owns.nil _ _ _, by simp, ?_, ?_, TRows.nil _ _ _, by simp, by omega, by rw [HL.out]; simp; omega, HR.out, ((Ext.refl w).alloc _).alloc _⟩
    · rw [← e1]; exact heap_alloc_new _ _
    · exact ((Ext.refl _).alloc _).heap (heap_alloc_new _ _)
  case round =>
    obtain ⟨k, rfl, A, c, bs, rc, L, vL, rfl, hrow, hpl, hO8, hwf8, hb7, hb6, hT, hrm, hkf, hll, href, hX⟩ := hrel
    have hbc := hrow.2.1
    have hbm := hrow.2.2.1
    unfold maxLen at hbm
    obtain ⟨a8, c8, rfl, hp8, hc8a, hc8b⟩ := hO8.bytes
    obtain ⟨s0, s1, s2, s3, sz_⟩ := blk4 hb7
    obtain ⟨t0, t1, t2, t3, tz_⟩ := blk4 hb6
    have hlt7 := lt_of_heap hb7
    have hlt6 := lt_of_heap hb6
    obtain ⟨aL, cL, rfl, hRL, _⟩ := hT.owns.rows
    have HO8 := Lib.hid hO8
    have HWF8 := Lib.hid hwf8
    have HB7 := Lib.hid hb7
    have HB6 := Lib.hid hb6
    have HT := Lib.hid hT
    have HX := Lib.hid hX
    have HRow := Lib.hid hrow
    have HPl := Lib.hid hpl
    have sz0 := sz_ 0
    have sz2 := sz_ 2
    have sz3 := sz_ 3
    have tz0 := tz_ 0
    have tz1 := tz_ 1
    have tz2 := tz_ 2
    have tz3 := tz_ 3
    by_cases hgt : 3 < bs.length
    · match bs, hgt with
      | x0 :: x1 :: x2 :: x3 :: t, hgt =>
        have hw := hrow.2.2.2.1
        have b0 := wf_u8 (hw x0 (by simp))
        have b1 := wf_u8 (hw x1 (by simp))
        have b2 := wf_u8 (hw x2 (by simp))
        have b3 := wf_u8 (hw x3 (by simp))
        obtain ⟨ga, o, rfl, hcell⟩ : ∃ ga o, A = some ⟨ga, o, none⟩ ∧ ∀ i, i < (x0 :: x1 :: x2 :: x3 :: t).length → w.cell? ⟨ga, o + i, none⟩ = some (.int .u8 ((x0 :: x1 :: x2 :: x3 :: t).getD i 0)) := by
          rcases hrow.2.2.2.2 with h0 | h0
          · omega
          · exact h0
        have q0 := hX.cell (hcell 0 (by omega))
        have q0w := hcell 0 (by omega)
        have q1 := hX.cell (hcell 1 (by omega))
        have q2 := hX.cell (hcell 2 (by omega))
        have q3 := hX.cell (hcell 3 (by omega))
        simp only [List.getD_cons_zero, List.getD_cons_succ, Nat.add_zero] at q0 q1 q2 q3 q0w
        have hga := World.block_lt_of_cell? wr _ q0
        simp only at hga
        obtain ⟨hsz, hls⟩ := sz_bytes (t := t) b0 b1 b2 b3
        have HSZ := Lib.hid hsz
        have HLS := Lib.hid hls
        obtain ⟨bl, hbl⟩ : ∃ bl, bl = (x0 :: x1 :: x2 :: x3 :: t).length := ⟨_, rfl⟩
        rw [← hbl] at hgt hbc hll HRow
        have HBL := Lib.hid hbl
        rw [← hbl]
        rw [ref, if_neg (by omega)] at href
        rw [← hbl] at href
        have HRef := Lib.hid href
        generalize hbs : x0 :: x1 :: x2 :: x3 :: t = bs at *
        have hd3 : decide ((3 : Int) < (bl : Int)) = true := by simp; omega
        clear hrow hpl hO8 hwf8 hb7 hb6 hT hX sz_ tz_ hw hcell hsz hls hbl href hbs hRL
        obtain ⟨p0, p0'⟩ := b0
        obtain ⟨p1, p1'⟩ := b1
        obtain ⟨p2, p2'⟩ := b2
        obtain ⟨p3, p3'⟩ := b3
        go_wp2_with fail
        go_region
        rw [HSZ.out]
        clear HSZ q1 q2 q3
        have Q0 := Lib.hid q0w
        clear q0w
        have hlo0 : sz bs < 2147483648 := by unfold sz low31; omega
        generalize sz bs = S at *
        generalize lst bs = lb at *
        generalize hrl : rc.length = rl at *
        generalize hLl : L.length = Ll at *
        by_cases hfull : f < k + 1
        · as_aux_lemma =>
            have hdf : decide ((f : Int) < (k : Int) + 1) = true := by simp; omega
            rw [if_pos hfull] at HRef
            have u : Upd [w.heap.size, w.heap.size + 1] wr (((((wr.setCell ⟨w.heap.size, 0, none⟩ (.slice aL Ll cL)).setCell ⟨w.heap.size, 1, none⟩ (.int .i64 5)).setCell ⟨w.heap.size, 2, none⟩ (.int .i64 0)).setCell ⟨w.heap.size, 3, none⟩ (.bool false))) := ((((Upd.refl [w.heap.size, w.heap.size + 1] wr).setCell _ _ (by simp)).setCell _ _ (by simp)).setCell _ _ (by simp)).setCell _ _ (by simp)
            have HRk := Lib.hid (rows_keep HT.out.owns HB6.out HB7.out u)
            have HXf := Lib.hid (u.ext HX.out (by simp))
            clear u
            go_wp2_with fail
            exact bodyPost_ret (v := .agg #[.slice aL Ll cL, .int .i64 5, .int .i64 0, .bool false]) (by simp [results, Try.results15, go_sem, *]) rfl ⟨_, by rw [← HRef.out]; rfl, by rw [← HRef.out]; exact HRk.out.ext ((Ext.refl _).drew), HXf.out.drew⟩
        · have hdf : decide ((f : Int) < (k : Int) + 1) = false := by simp; omega
          rw [if_neg hfull] at HRef
          by_cases hbig : m < rl + S
          · as_aux_lemma =>
              have hdb : decide ((m : Int) < (rl : Int) + (S : Int)) = true := by simp; omega
              rw [if_pos hbig] at HRef
              have u : Upd [w.heap.size, w.heap.size + 1] wr (((((wr.setCell ⟨w.heap.size, 0, none⟩ (.slice aL Ll cL)).setCell ⟨w.heap.size, 1, none⟩ (.int .i64 4)).setCell ⟨w.heap.size, 2, none⟩ (.int .i64 0)).setCell ⟨w.heap.size, 3, none⟩ (.bool false))) := ((((Upd.refl [w.heap.size, w.heap.size + 1] wr).setCell _ _ (by simp)).setCell _ _ (by simp)).setCell _ _ (by simp)).setCell _ _ (by simp)
              have HRk := Lib.hid (rows_keep HT.out.owns HB6.out HB7.out u)
              have HXf := Lib.hid (u.ext HX.out (by simp))
              clear u
              go_wp2_with fail
              exact bodyPost_ret (v := .agg #[.slice aL Ll cL, .int .i64 4, .int .i64 0, .bool false]) (by simp [results, Try.results15, go_sem, *]) rfl ⟨_, by rw [← HRef.out]; rfl, by rw [← HRef.out]; exact HRk.out.ext ((Ext.refl _).drew), HXf.out.drew⟩
          · have hdb : decide ((m : Int) < (rl : Int) + (S : Int)) = false := by simp; omega
            rw [if_neg hbig] at HRef
            by_cases hsh : bl < 4 + S
            · as_aux_lemma =>
                have hds : decide ((bl : Int) < 4 + (S : Int)) = true := by simp; omega
                rw [if_pos hsh] at HRef
                have HHl := Lib.hid (show ((rl + bl - 4 : Nat) : Int) = (rl : Int) + (bl : Int) - 4 by omega)
                have u : Upd [w.heap.size, w.heap.size + 1] wr (((((wr.setCell ⟨w.heap.size + 1, 2, none⟩ (.int .i64 ((rl : Int) + (bl : Int) - 4))).setCell ⟨w.heap.size, 0, none⟩ (.slice aL Ll cL)).setCell ⟨w.heap.size, 1, none⟩ (.int .i64 0)).setCell ⟨w.heap.size, 2, none⟩ (.int .i64 ((rl : Int) + (bl : Int) - 4))).setCell ⟨w.heap.size, 3, none⟩ (.bool false)) := (((((Upd.refl [w.heap.size, w.heap.size + 1] wr).setCell _ _ (by simp)).setCell _ _ (by simp)).setCell _ _ (by simp)).setCell _ _ (by simp)).setCell _ _ (by simp)
                have HRk := Lib.hid (rows_keep HT.out.owns HB6.out HB7.out u)
                have HXf := Lib.hid (u.ext HX.out (by simp))
                clear u
                go_wp2_with fail
                exact bodyPost_ret (v := .agg #[.slice aL Ll cL, .int .i64 0, .int .i64 ((rl : Int) + (bl : Int) - 4), .bool false]) (by simp [results, Try.results15, go_sem, *]) rfl ⟨_, by rw [← HRef.out, HHl.out], by rw [← HRef.out]; exact HRk.out.ext ((Ext.refl _).drew), HXf.out.drew⟩
            · have hds : decide ((bl : Int) < 4 + (S : Int)) = false := by simp; omega
              rw [if_neg hsh] at HRef
              have hl5 : (bs.drop (4 + S)).length = bl - (4 + S) := by rw [List.length_drop, ← HBL.out]
              have HL5 := Lib.hid hl5
              have hb1 : 4 + S ≤ c := by omega
              have hb2 : 4 ≤ 4 + S := by omega
              have hb3 : 4 + S ≤ bl := by omega
              have hcs : ∃ A4 A5, (A4 = if c = 4 then some ⟨ga, o, none⟩ else some ⟨ga, o + 4, none⟩) ∧ (A5 = if c = 4 + S then some ⟨ga, o, none⟩ else some ⟨ga, o + (4 + S), none⟩) ∧ IsRow .u8 wr.drew A4 S (c - 4) ((bs.drop 4).take S) ∧ A4 ≠ none ∧ IsRow .u8 w A5 (bl - (4 + S)) (c - (4 + S)) (bs.drop (4 + S)) ∧ Plain A5 (c - (4 + S)) := by
                refine ⟨_, _, rfl, rfl, ?_, ?_, ?_, ?_⟩
                · exact ((HRow.out.cut (j := 4) (by omega) _ (fun h => by rw [if_neg (by omega)])).head (by omega)).ext (HX.out.trans (drew_ext wr))
                · split <;> simp
                · exact HRow.out.cut hb3 _ (fun h => by rw [if_neg (by omega)])
                · split <;> exact .inr ⟨_, _, rfl⟩
              obtain ⟨A4, A5, hA4, hA5, hr4, hn4, hr5, hp5⟩ := hcs
              have hO8d := HO8.out.ext (drew_ext wr)
              obtain ⟨B8, D8, w1, p1, p2, p3, p4⟩ := app_row2 hO8d hr4 (c := c - 4) (fun e => absurd e hn4) (by rw [hrl]; omega) (show w.heap.size ≤ wr.drew.heap.size from HX.out.size)
              rw [hrl] at p1 p2 p4
              have hb7' := p3.heap (show wr.drew.heap[w.heap.size + 1]? = _ from HB7.out) (by simp; exact fun e => own_ne hO8d (show wr.drew.heap[w.heap.size + 1]? = _ from HB7.out) (by decide) e)
              have hb6' := p3.heap (show wr.drew.heap[w.heap.size]? = _ from HB6.out) (by simp; exact fun e => own_ne hO8d (show wr.drew.heap[w.heap.size]? = _ from HB6.out) (by decide) e)
              have hX1 : Ext w w1 := p3.ext (HX.out.trans (drew_ext wr)) (fun k hk => by simp at hk; exact (hO8d.lt hk).1)
              have hT1 : TRows w1 w.heap.size ((Value.slice a8 rl c8).ownBlock.toList ++ (Value.slice B8 (rl + S) D8).ownBlock.toList) (.slice aL Ll cL) L :=
                ((HT.out.ext (drew_ext wr)).sub (fun k hk => by
                  rcases List.mem_append.1 hk with hk | hk
                  · exact .inl hk
                  · simp only [Option.mem_toList] at hk
                    rcases p4 with p4 | p4
                    · rw [p4] at hk; exact .inl (by simpa using hk)
                    · rw [p4] at hk; simp at hk; exact .inr (by simp; omega))).upd (p3.mono (fun k hk => List.mem_append.2 (.inl hk))) (fun k hk hm => by
                    have hT0 := HT.out
                    obtain ⟨xs, o1, _⟩ := hT0
                    rcases List.mem_append.1 hm with hm | hm
                    · simp at hm; exact o1.apart HO8.out (by decide) hk hm
                    · simp only [Option.mem_toList] at hm
                      rcases p4 with p4 | p4
                      · rw [p4] at hm; exact o1.apart HO8.out (by decide) hk hm
                      · rw [p4] at hm; simp at hm; have := (o1.lt hk).2; omega)
              have hwf1 : ∀ z ∈ rc ++ (bs.drop 4).take S, (Lit.int .u8 z).wf = true := fun z hz => by
                rcases List.mem_append.1 hz with hz | hz
                · exact HWF8.out z hz
                · exact hr4.2.2.2.1 z hz
              have hrl1 : (rc ++ (bs.drop 4).take S).length = rl + S := by rw [List.length_append, hrl, hr4.1]
              have q0' := hX1.cell (show w.cell? ⟨ga, o, none⟩ = some (.int .u8 x0) from Q0.out)
              have hga1 := World.block_lt_of_cell? w1 _ q0'
              simp only at hga1
              obtain ⟨s0', s1', s2', s3', sz'⟩ := blk4 hb7'
              have sz0' := sz' 0
              have hlt7' := lt_of_heap hb7'
              have P1 := Lib.hid p1
              have P2 := Lib.hid p2
              have HB7' := Lib.hid hb7'
              have HB6' := Lib.hid hb6'
              have HX1 := Lib.hid hX1
              have HT1 := Lib.hid hT1
              have HWf1 := Lib.hid hwf1
              have HRl1 := Lib.hid hrl1
              have HR5 := Lib.hid hr5
              have HP5 := Lib.hid hp5
              have HA4 := Lib.hid hA4
              have HA5 := Lib.hid hA5
              clear hl5 hr4 hn4 hr5 hp5 hO8d p1 p2 p3 p4 hb7' hb6' hX1 hT1 hwf1 hrl1 hA4 hA5 sz' q0 s0 s1 s2 s3 t0 t1 t2 t3 sz0 sz2 sz3 tz0 tz1 tz2 tz3 hlt7 hlt6
              have hcase : (c = 4 ∧ S = 0 ∧ bl = 4) ∨ (c ≠ 4 ∧ c = 4 + S) ∨ (c ≠ 4 ∧ c ≠ 4 + S) := by omega
              cases lb with
              | false =>
                rw [if_neg (by simp)] at HRef
                have hdl : decide ((127 : Int) < x0) = false := HLS.out
                rcases hcase with ⟨rfl, rfl, rfl⟩ | ⟨hc4, hc5⟩ | ⟨hc4, hc5⟩
                · as_aux_lemma =>
                    have e4 : A4 = some ⟨ga, o, none⟩ := by rw [HA4.out, if_pos rfl]
                    have e5 : A5 = some ⟨ga, o, none⟩ := by rw [HA5.out, if_pos rfl]
                    subst e4 e5
                    go_wp2_with (at_builtin; refine wpList_append_run rfl (.tmp 67) (.tmp 71) _ rfl _ _ _ ?_ ?_ P1.out ?_)
                    · go_roundw
                      case rel =>
                        refine ⟨k + 1, by go_num, some ⟨ga, o, none⟩, 4 - (4 + 0), bs.drop (4 + 0), rc ++ (bs.drop 4).take 0, L, .slice aL Ll cL, ?_, ?_, ?_, ?_, HWf1.out, HB7'.out, HB6'.out, HT1.out.sub (fun k hk => .inl (List.mem_append.2 (.inr hk))), ?_, by omega, ?_, HRef.out, HX1.out⟩
                        · rw [HL5.out]; first | done | rfl | simp | (congr 1 <;> omega)
                        · rw [HL5.out]; exact HR5.out
                        · exact HP5.out
                        · exact P2.out
                        · rw [HRl1.out]; omega
                        · rw [HL5.out]; omega
                      case measure => simp <;> omega
                · as_aux_lemma =>
                    have e4 : A4 = some ⟨ga, o + 4, none⟩ := by rw [HA4.out, if_neg hc4]
                    have e5 : A5 = some ⟨ga, o, none⟩ := by rw [HA5.out, if_pos hc5]
                    subst e4 e5
                    subst hc5
                    go_wp2_with (at_builtin; refine wpList_append_run rfl (.tmp 67) (.tmp 71) _ rfl _ _ _ ?_ ?_ P1.out ?_)
                    · go_roundw
                      case rel =>
                        refine ⟨k + 1, by go_num, some ⟨ga, o, none⟩, 4 + S - (4 + S), bs.drop (4 + S), rc ++ (bs.drop 4).take S, L, .slice aL Ll cL, ?_, ?_, ?_, ?_, HWf1.out, HB7'.out, HB6'.out, HT1.out.sub (fun k hk => .inl (List.mem_append.2 (.inr hk))), ?_, by omega, ?_, HRef.out, HX1.out⟩
                        · rw [HL5.out]; first | done | rfl | simp | (congr 1 <;> omega)
                        · rw [HL5.out]; exact HR5.out
                        · exact HP5.out
                        · exact P2.out
                        · rw [HRl1.out]; omega
                        · rw [HL5.out]; omega
                      case measure => simp <;> omega
                · as_aux_lemma =>
                    have e4 : A4 = some ⟨ga, o + 4, none⟩ := by rw [HA4.out, if_neg hc4]
                    have e5 : A5 = some ⟨ga, o + (4 + S), none⟩ := by rw [HA5.out, if_neg hc5]
                    subst e4 e5
                    go_wp2_with (at_builtin; refine wpList_append_run rfl (.tmp 67) (.tmp 71) _ rfl _ _ _ ?_ ?_ P1.out ?_)
                    · rfl
                    · go_simp <;> omega
                    · go_roundw
                      case rel =>
                        refine ⟨k + 1, by go_num, some ⟨ga, o + (4 + S), none⟩, c - (4 + S), bs.drop (4 + S), rc ++ (bs.drop 4).take S, L, .slice aL Ll cL, ?_, ?_, ?_, ?_, HWf1.out, HB7'.out, HB6'.out, HT1.out.sub (fun k hk => .inl (List.mem_append.2 (.inr hk))), ?_, by omega, ?_, HRef.out, HX1.out⟩
                        · rw [HL5.out]; first | done | rfl | simp | (congr 1 <;> omega)
                        · rw [HL5.out]; exact HR5.out
                        · exact HP5.out
                        · exact P2.out
                        · rw [HRl1.out]; omega
                        · rw [HL5.out]; omega
                      case measure => simp <;> omega
              | true =>
                rw [if_pos rfl] at HRef
                have hdl : decide ((127 : Int) < x0) = true := HLS.out
                obtain ⟨aM, cM, w2, g1, g2, g3⟩ := (HT1.out.owns).push2 ⟨P2.out, HWf1.out⟩ HX1.out.size (by omega)
                rw [hLl] at g1 g2
                have hfarL : ∀ k', (Value.slice aL Ll cL).ownBlock = some k' → ∀ cs, w1.heap[k']? ≠ some (.cells cs 38 (0, 0)) := fun k' hk cs hcs => by
                  obtain ⟨xs, o1, _⟩ := HT1.out
                  exact own_ne o1 hcs (by decide) hk
                have h7 := g3.heap HB7'.out (by simp; exact fun e => hfarL _ e _ HB7'.out)
                have h6 := g3.heap HB6'.out (by simp; exact fun e => hfarL _ e _ HB6'.out)
                obtain ⟨r0, r1, r2, r3, rz⟩ := blk4 h7
                have rz0 := rz 0
                have hlt9 := lt_of_heap h7
                have u : Upd [w.heap.size, w.heap.size + 1] w2 (w2.setCell ⟨w.heap.size + 1, 0, none⟩ (.slice aM (Ll + 1) cM)) := (Upd.refl [w.heap.size, w.heap.size + 1] w2).setCell _ _ (by simp)
                have hX2 : Ext w w2 := g3.ext HX1.out (fun k' hk => by
                  simp at hk
                  obtain ⟨xs, o1, _⟩ := HT1.out
                  exact (o1.lt hk).1)
                have G1 := Lib.hid g1
                have hO3 := rows_keep g2 h6 h7 u
                have G2 := Lib.hid (show TRows (w2.setCell ⟨w.heap.size + 1, 0, none⟩ (.slice aM (Ll + 1) cM)) w.heap.size [] (.slice aM (Ll + 1) cM) (L ++ [rc ++ (bs.drop 4).take S]) by
                  obtain ⟨xs, o1, e1⟩ := hO3
                  exact ⟨xs, o1, e1.mono fun x y q => ⟨q, by simp⟩⟩)
                have G3 := Lib.hid (u.ext hX2 (by simp))
                have G7 := Lib.hid (show (w2.setCell ⟨w.heap.size + 1, 0, none⟩ (.slice aM (Ll + 1) cM)).heap[w.heap.size + 1]? = some (.cells #[.slice aM (Ll + 1) cM, .int .i64 0, .int .i64 0, .bool false] 38 (0, 0)) by rw [heap_put _ h7]; rfl)
                have G6 := Lib.hid (show (w2.setCell ⟨w.heap.size + 1, 0, none⟩ (.slice aM (Ll + 1) cM)).heap[w.heap.size]? = some (.cells #[.slice none 0 0, .int .i64 0, .int .i64 0, .bool false] 38 (0, 0)) from ((Upd.refl [w.heap.size + 1] w2).setCell _ _ (by simp)).heap h6 (by simp))
                have q02 := hX2.cell (show w.cell? ⟨ga, o, none⟩ = some (.int .u8 x0) from Q0.out)
                clear g1 g2 g3 hfarL h7 h6 rz u hX2 hO3
                rcases hcase with ⟨rfl, rfl, rfl⟩ | ⟨hc4, hc5⟩ | ⟨hc4, hc5⟩
                · as_aux_lemma =>
                    have e4 : A4 = some ⟨ga, o, none⟩ := by rw [HA4.out, if_pos rfl]
                    have e5 : A5 = some ⟨ga, o, none⟩ := by rw [HA5.out, if_pos rfl]
                    subst e4 e5
                    go_wp2_with (first | (at_builtin; refine wpList_append_run rfl (.tmp 67) (.tmp 71) _ rfl _ _ _ ?_ ?_ P1.out ?_) | (at_builtin; refine wpList_append_run rfl (.tmp 78) (.tmp 80) _ rfl _ _ _ rfl rfl G1.out ?_))
                    · go_roundw
                      case rel =>
                        refine ⟨0, by go_num, some ⟨ga, o, none⟩, 4 - (4 + 0), bs.drop (4 + 0), [], L ++ [rc ++ (bs.drop 4).take 0], .slice aM (Ll + 1) cM, ?_, ?_, ?_, Owns.nil _ _ _, by simp, G7.out, G6.out, G2.out, by simp, by omega, ?_, HRef.out, G3.out⟩
                        · rw [HL5.out]; first | done | rfl | simp | (congr 1 <;> omega)
                        · rw [HL5.out]; exact HR5.out
                        · exact HP5.out
                        · rw [HL5.out, List.length_append, hLl]; simp; omega
                      case measure => simp <;> omega
                · as_aux_lemma =>
                    have e4 : A4 = some ⟨ga, o + 4, none⟩ := by rw [HA4.out, if_neg hc4]
                    have e5 : A5 = some ⟨ga, o, none⟩ := by rw [HA5.out, if_pos hc5]
                    subst e4 e5
                    subst hc5
                    go_wp2_with (first | (at_builtin; refine wpList_append_run rfl (.tmp 67) (.tmp 71) _ rfl _ _ _ ?_ ?_ P1.out ?_) | (at_builtin; refine wpList_append_run rfl (.tmp 78) (.tmp 80) _ rfl _ _ _ rfl rfl G1.out ?_))
                    · go_roundw
                      case rel =>
                        refine ⟨0, by go_num, some ⟨ga, o, none⟩, 4 + S - (4 + S), bs.drop (4 + S), [], L ++ [rc ++ (bs.drop 4).take S], .slice aM (Ll + 1) cM, ?_, ?_, ?_, Owns.nil _ _ _, by simp, G7.out, G6.out, G2.out, by simp, by omega, ?_, HRef.out, G3.out⟩
                        · rw [HL5.out]; first | done | rfl | simp | (congr 1 <;> omega)
                        · rw [HL5.out]; exact HR5.out
                        · exact HP5.out
                        · rw [HL5.out, List.length_append, hLl]; simp; omega
                      case measure => simp <;> omega
                · as_aux_lemma =>
                    have e4 : A4 = some ⟨ga, o + 4, none⟩ := by rw [HA4.out, if_neg hc4]
                    have e5 : A5 = some ⟨ga, o + (4 + S), none⟩ := by rw [HA5.out, if_neg hc5]
                    subst e4 e5
                    go_wp2_with (first | (at_builtin; refine wpList_append_run rfl (.tmp 67) (.tmp 71) _ rfl _ _ _ ?_ ?_ P1.out ?_) | (at_builtin; refine wpList_append_run rfl (.tmp 78) (.tmp 80) _ rfl _ _ _ rfl rfl G1.out ?_))
                    · rfl
                    · go_simp <;> omega
                    · go_roundw
                      case rel =>
                        refine ⟨0, by go_num, some ⟨ga, o + (4 + S), none⟩, c - (4 + S), bs.drop (4 + S), [], L ++ [rc ++ (bs.drop 4).take S], .slice aM (Ll + 1) cM, ?_, ?_, ?_, Owns.nil _ _ _, by simp, G7.out, G6.out, G2.out, by simp, by omega, ?_, HRef.out, G3.out⟩
                        · rw [HL5.out]; first | done | rfl | simp | (congr 1 <;> omega)
                        · rw [HL5.out]; exact HR5.out
                        · exact HP5.out
                        · rw [HL5.out, List.length_append, hLl]; simp; omega
                      case measure => simp <;> omega
    · have hd3 : decide ((3 : Int) < (bs.length : Int)) = false := by simp; omega
      rw [ref, if_pos (by omega)] at href
      generalize hbl : bs.length = bl at *
      generalize hrl : rc.length = rl at *
      generalize hLl : L.length = Ll at *
      have HRef := Lib.hid href
      have hrl5 : rl ≤ 4096 := by omega
      by_cases hk0 : k = 0
      · subst hk0
        by_cases hb0 : bl = 0
        · subst hb0
          have HE := Lib.hid (show R = ⟨L, 0, rl, true⟩ by rw [← HRef.out]; simp)
          clear href hrow hpl hO8 hwf8 hb7 hb6 hT hX sz_ tz_ hRL HRow hbl
          have u0 : Upd [w.heap.size + 1] wr ((wr.setCell ⟨w.heap.size + 1, 2, none⟩ (.int .i64 ((rl : Int)))).setCell ⟨w.heap.size + 1, 3, none⟩ (.bool true)) := ((Upd.refl [w.heap.size + 1] wr).setCell _ _ (by simp)).setCell _ _ (by simp)
          obtain ⟨w9, z1, z2, z3⟩ := put4 (P := Try.prog) (u0.heap HB6.out (by simp)) (.slice aL Ll cL) (.int .i64 0) (.int .i64 ((rl : Int))) (.bool true) (by kernel_rfl) (by simp [Value.oneCell'])
          have u : Upd [w.heap.size, w.heap.size + 1] wr w9 := (u0.mono (by simp)).trans (z3.mono (by simp))
          have HRk := Lib.hid (rows_keep HT.out.owns HB6.out HB7.out u)
          have HXf := Lib.hid (u.ext HX.out (by simp))
          obtain ⟨x0, x1, x2, x3, -⟩ := blk4 z2
          have hx9 := lt_of_heap z2
          have Z1 := Lib.hid z1
          clear u u0 z1 z2 z3
          go_wp2_with ((with_reducible refine wpList_store_run (o := ⟨none, .store 38 (.tmp 6) (.tmp 101), _, _, _, none⟩) rfl _ _ _ rfl _ _ ?_ ?_ Z1.out ?_); (· rfl); (· rfl))
          exact bodyPost_ret (v := .agg #[.slice aL Ll cL, .int .i64 0, .int .i64 ((rl : Int)), .bool true]) (by simp [results, Try.results15, go_sem, x0, x1, x2, x3]) rfl ⟨.slice aL Ll cL, by rw [HE.out]; first | done | rfl | simp, by rw [HE.out]; exact HRk.out, HXf.out⟩
        · have hbz : ((bl : Int) == 0) = false := by simp; omega
          have HE := Lib.hid (show R = ⟨L, 0, rl + bl, false⟩ by rw [← HRef.out]; simp [hb0])
          clear href hrow hpl hO8 hwf8 hb7 hb6 hT hX sz_ tz_ hRL HRow hbl
          have u0 : Upd [w.heap.size + 1] wr ((wr.setCell ⟨w.heap.size + 1, 2, none⟩ (.int .i64 ((rl : Int) + (bl : Int)))).setCell ⟨w.heap.size + 1, 3, none⟩ (.bool false)) := ((Upd.refl [w.heap.size + 1] wr).setCell _ _ (by simp)).setCell _ _ (by simp)
          obtain ⟨w9, z1, z2, z3⟩ := put4 (P := Try.prog) (u0.heap HB6.out (by simp)) (.slice aL Ll cL) (.int .i64 0) (.int .i64 ((rl : Int) + (bl : Int))) (.bool false) (by kernel_rfl) (by simp [Value.oneCell'])
          have u : Upd [w.heap.size, w.heap.size + 1] wr w9 := (u0.mono (by simp)).trans (z3.mono (by simp))
          have HRk := Lib.hid (rows_keep HT.out.owns HB6.out HB7.out u)
          have HXf := Lib.hid (u.ext HX.out (by simp))
          obtain ⟨x0, x1, x2, x3, -⟩ := blk4 z2
          have hx9 := lt_of_heap z2
          have Z1 := Lib.hid z1
          clear u u0 z1 z2 z3
          go_wp2_with ((with_reducible refine wpList_store_run (o := ⟨none, .store 38 (.tmp 6) (.tmp 101), _, _, _, none⟩) rfl _ _ _ rfl _ _ ?_ ?_ Z1.out ?_); (· rfl); (· rfl))
          exact bodyPost_ret (v := .agg #[.slice aL Ll cL, .int .i64 0, .int .i64 ((rl : Int) + (bl : Int)), .bool false]) (by simp [results, Try.results15, go_sem, x0, x1, x2, x3]) rfl ⟨.slice aL Ll cL, by rw [HE.out]; first | done | rfl | simp, by rw [HE.out]; exact HRk.out, HXf.out⟩
      · have hkz : ((k : Int) == 0) = false := by simp; omega
        have HE := Lib.hid (show R = ⟨L, 0, rl + bl, false⟩ by rw [← HRef.out]; simp [hk0])
        clear href hrow hpl hO8 hwf8 hb7 hb6 hT hX sz_ tz_ hRL HRow hbl
        have u0 : Upd [w.heap.size + 1] wr ((wr.setCell ⟨w.heap.size + 1, 2, none⟩ (.int .i64 ((rl : Int) + (bl : Int)))).setCell ⟨w.heap.size + 1, 3, none⟩ (.bool false)) := ((Upd.refl [w.heap.size + 1] wr).setCell _ _ (by simp)).setCell _ _ (by simp)
        obtain ⟨w9, z1, z2, z3⟩ := put4 (P := Try.prog) (u0.heap HB6.out (by simp)) (.slice aL Ll cL) (.int .i64 0) (.int .i64 ((rl : Int) + (bl : Int))) (.bool false) (by kernel_rfl) (by simp [Value.oneCell'])
        have u : Upd [w.heap.size, w.heap.size + 1] wr w9 := (u0.mono (by simp)).trans (z3.mono (by simp))
        have HRk := Lib.hid (rows_keep HT.out.owns HB6.out HB7.out u)
        have HXf := Lib.hid (u.ext HX.out (by simp))
        obtain ⟨x0, x1, x2, x3, -⟩ := blk4 z2
        have hx9 := lt_of_heap z2
        have Z1 := Lib.hid z1
        clear u u0 z1 z2 z3
        go_wp2_with ((with_reducible refine wpList_store_run (o := ⟨none, .store 38 (.tmp 6) (.tmp 101), _, _, _, none⟩) rfl _ _ _ rfl _ _ ?_ ?_ Z1.out ?_); (· rfl); (· rfl))
        exact bodyPost_ret (v := .agg #[.slice aL Ll cL, .int .i64 0, .int .i64 ((rl : Int) + (bl : Int)), .bool false]) (by simp [results, Try.results15, go_sem, x0, x1, x2, x3]) rfl ⟨.slice aL Ll cL, by rw [HE.out]; first | done | rfl | simp, by rw [HE.out]; exact HRk.out, HXf.out⟩

end Go.Proofs.Ytpgbocdcjlcelaa
