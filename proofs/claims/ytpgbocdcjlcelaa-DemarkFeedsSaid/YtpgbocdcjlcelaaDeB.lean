/- The walk of Feed. -/
import Derived.Test.YtpgbocdcjlcelaaDeA
namespace Go.Proofs.Ytpgbocdcjlcelaa
open Go.ChangeShapes Go.WideShapes Go.ChangeAt Go.RowKit

theorem IsRow.upd2 {S : List Nat} {k : IntKind} {w w' : World} {a : Option Addr} {len cap : Nat} {zs : List Int} (h : IsRow k w a len cap zs) (hx : Upd S w w') (hs : ∀ ga o, a = some ⟨ga, o, none⟩ → ga ∉ S) : IsRow k w' a len cap zs := by
  obtain ⟨h1, h2, h3, h4, h5⟩ := h
  refine ⟨h1, h2, h3, h4, ?_⟩
  rcases h5 with h5 | ⟨g, o, h6, h7⟩
  · exact .inl h5
  · exact .inr ⟨g, o, h6, fun i hi => hx.cell (h7 i hi) (hs g o h6)⟩
theorem Upd.trans2 {S T : List Nat} {a b c : World} (h : Upd S a b) (k : Upd T b c) (hs : ∀ i ∈ T, i ∈ S ∨ a.heap.size ≤ i) : Upd S a c :=
  ⟨k.os.trans h.os, k.tape.trans h.tape, k.output.trans h.output, Nat.le_trans h.size k.size, fun i hi hn => (k.block i (Nat.lt_of_lt_of_le hi h.size) (fun hm => (hs i hm).elim hn (fun h2 => by omega))).trans (h.block i hi hn)⟩
theorem feed_take_succ (m f : Nat) (zs : List Int) (i : Nat) (hi : i < zs.length) (p : St × List (List Int)) : feed m f (zs.take (i + 1)) p = stepF m f (feed m f (zs.take i) p) (zs.getD i 0) := by
  rw [List.take_succ_eq_append_getElem hi, feed_snoc]
  simp [List.getD, List.getElem?_eq_getElem hi]
theorem feed_len (m f : Nat) : ∀ (b : List Int) (p : St × List (List Int)), (feed m f b p).2.length ≤ p.2.length + b.length
  | [], p => by simp [feed]
  | c :: b, p => by
    rw [feed_cons]
    have := feed_len m f b (stepF m f p c)
    have h2 : (stepF m f p c).2.length ≤ p.2.length + 1 := by
      unfold stepF tell
      split <;> simp
    simp only [List.length_cons]
    omega
theorem run_fid (mode : Nat) (args : Array Value) (W : World) : (callFunc (fid mode) args).run Try.prog W = .ok (.enter (fid mode) args) W := by
  unfold fid
  split
  · kernel_rfl
  · split <;> kernel_rfl
/-- What is there behind bytes. -/
def Fed (w w' : World) (b g m f : Nat) (p : St × List (List Int)) (vn vr v : Value) : Prop :=
  ∃ vn' vr', DW w' b g m f p.1 vn' vr' ∧ TRows w' b (foot g vn' vr') v p.2 ∧ Upd (foot g vn vr) w w' ∧ (∀ k ∈ foot g vn' vr', k ∈ foot g vn vr ∨ w.heap.size ≤ k) ∧ ∀ k, v.ownBlock = some k → w.heap.size ≤ k
set_option maxRecDepth 100000 in
set_option maxHeartbeats 4000000 in
theorem feed_any {w : World} {b g m f : Nat} {s : St} {vn vr : Value} (h : DW w b g m f s vn vr) (hI : Inv m f s) (hb : b ≤ w.heap.size) (hm4 : m ≤ 4096) (hf64 : f ≤ 64) (a : Option Addr) (n cap : Nat) (zs : List Int) (hr : IsRow .u8 w a n cap zs)
    (ha : ∀ ga o, a = some ⟨ga, o, none⟩ → ga ∉ foot g vn vr) (hn : n ≤ 5000) :
    Calls Try.prog 14 #[.pointer (some ⟨g, 0, none⟩), .slice a n cap] w fun r w' => ∃ v, r = .returned v ∧ Fed w w' b g m f (feed m f zs (s, [])) vn vr v := by
  have hcm := hr.2.2.1
  have hlc := hr.2.1
  have hnl := hr.1
  unfold maxLen at hcm
  have H0 := Lib.hid h
  have HI := Lib.hid hI
  have HR := Lib.hid hr
  have HA := Lib.hid ha
  have HNL := Lib.hid hnl
  clear h hI hr ha hnl
  go_enter Try.func14, Try.ntmps14
  go_wp2_with fail
  go_loopw [5, 10] (fun v5 v10 wr => ∃ i : Nat, i ≤ n ∧ v10 = .int .i64 i ∧ Fed w wr b g m f (feed m f (zs.take i) (s, [])) vn vr v5) (fun _ v10 _ => n - (intOf v10).toNat)
  case atStart => exact ⟨0, by omega, rfl, vn, vr, H0.out, TRows.nil _ _ _, Upd.refl _ _, fun k hk => .inl hk, by simp [Value.ownBlock]⟩
  case round =>
    obtain ⟨i, hi, rfl, vn0, vr0, hD, hT, hU, hF, hv5⟩ := hrel
    by_cases hlt : i < n
    · have hd : decide ((i : Int) < (n : Int)) = true := by simp; omega
      have hi0 : (0 : Int) ≤ (i : Int) := by omega
      have hi1 : (i : Int) < (n : Int) := by omega
      obtain ⟨ga, o, rfl, q⟩ := (HR.out.upd2 hU HA.out).at_ hlt
      have hgr := World.block_lt_of_cell? wr _ q
      have hIi := HI.out
      have hwf := HR.out.2.2.2.1 (zs.getD i 0) (by
        have hl : i < zs.length := by rw [HNL.out]; exact hlt
        simp [List.getD, List.getElem?_eq_getElem hl])
      have HE := Lib.hid (feed_take_succ m f zs i (by rw [HNL.out]; exact hlt) (s, []))
      have hll := feed_len m f (zs.take i) (s, [])
      have hL : (feed m f (zs.take i) (s, [])).2.length ≤ 5000 := by
        rw [List.length_take] at hll
        simp at hll
        omega
      have hI2 : Inv m f (feed m f (zs.take i) (s, [])).1 := Inv.feed _ HI.out
      generalize feed m f (zs.take i) (s, []) = p at *
      obtain ⟨si, L⟩ := p
      simp only at hD hT hL hI2
      generalize zs.getD i 0 = z at *
      have HSC := Lib.hid (step_call hD hI2 z hwf (Nat.le_trans hb hU.size) hm4 hf64)
      obtain ⟨c0, c1, c2, c3, c4, c5, c6, c7, c8, fz⟩ := blk9 hD.blk
      have hlt0 := hD.lt
      have HD := Lib.hid hD
      have HT := Lib.hid hT
      have HU := Lib.hid hU
      have HF := Lib.hid hF
      have HV5 := Lib.hid hv5
      have HEs := Lib.hid (show stepF m f (si, L) z = tell (step m f si z) L from rfl)
      rw [HEs.out] at HE
      generalize step m f si z = P at *
      obtain ⟨s1, t1⟩ := P
      clear hD hT hU hF hv5 hIi hll hI2 c0 c1 c3 c4 c5 c6 c7 c8 fz hwf HEs
      unfold fnOf at c2
      simp only at HSC
      have hcf := fun args W => run_fid si.mode args W
      generalize fid si.mode = FF at *
      go_wp2_with fail
      refine HSC.out.mono ?_
      rintro r W1 ⟨vn1, vr1, rfl, hst⟩
      clear hcf c2 q HSC
      have hT1 := HT.out.step HD.out hst
      have hU1 := HU.out.trans2 hst.2.1 HF.out
      have hF1 : ∀ k ∈ foot g vn1 vr1, k ∈ foot g vn vr ∨ w.heap.size ≤ k := fun k hk => by
        rcases hst.2.2 k hk with h1 | h1
        · exact HF.out k h1
        · exact .inr (Nat.le_trans HU.out.size h1)
      have HT1 := Lib.hid hT1
      have HU1 := Lib.hid hU1
      have HF1 := Lib.hid hF1
      have HD1 := Lib.hid hst.1
      clear hT1 hU1 hF1
      cases t1 with
      | false =>
        clear hst
        go_wp2_with fail
        go_roundw
        case rel => exact ⟨i + 1, by omega, by go_num, by rw [HE.out]; exact ⟨vn1, vr1, HD1.out, HT1.out, HU1.out, HF1.out, HV5.out⟩⟩
        case measure => simp [intOf]; omega
      | true =>
        obtain ⟨ar, cr, rfl, _, _, _⟩ := HD1.out.rc.bytes
        generalize hrl : s1.rc.length = rl at *
        obtain ⟨v', W2, p1, p2, p3, p4, p5⟩ := told_any HD1.out HT1.out (Nat.le_trans hb HU1.out.size) (by omega)
        obtain ⟨c0, c1, c2, c3, c4, c5, c6, c7, c8, fz⟩ := blk9 HD1.out.blk
        obtain ⟨d0, d1, d2, d3, d4, d5, d6, d7, d8, fy⟩ := blk9 p2
        have hlt1 := HD1.out.lt
        have hlt2 := lt_of_heap p2
        have fy4 := fy 4
        have fy5 := fy 5
        have P1 := Lib.hid p1
        have P2 := Lib.hid p2
        have hu2 : Upd (foot g vn vr) w W2 := HU1.out.trans2 p3 (fun k hk => by simp at hk; exact .inr (HV5.out k hk))
        have P3 := Lib.hid hu2
        have P4 := Lib.hid (show ∀ k, v'.ownBlock = some k → w.heap.size ≤ k from fun k hk => by
          rcases p4 with h1 | h1
          · exact HV5.out k (by rw [← h1]; exact hk)
          · rw [h1] at hk; simp at hk; have := HU1.out.size; omega)
        have P5 := Lib.hid p5
        clear hst p1 p2 p3 p4 p5 hu2 c0 c1 c2 c3 c5 c6 c7 c8 d0 d1 d2 d3 d6 d7 d8 fz fy
        go_wp2_with (at_builtin; refine wpList_append_run rfl (.tmp 20) (.tmp 25) _ rfl _ _ _ rfl rfl P1.out ?_)
        go_roundw
        case rel =>
          have hu3 : Upd [g] W2 ((W2.setCell ⟨g, 4, none⟩ (.slice none 0 0)).setCell ⟨g, 5, none⟩ (.int .i64 0)) := ((Upd.refl [g] W2).setCell _ _ (by simp)).setCell _ _ (by simp)
          have h5 := P5.out _ ⟨s1.mode, s1.num, [], 0, s1.need, s1.ends, s1.err⟩ hu3 (by rw [heap_put _ (heap_put _ P2.out)]; rfl) rfl rfl
          refine ⟨i + 1, by omega, by go_num, ?_⟩
          rw [HE.out]
          refine ⟨vn1, _, h5.1, h5.2, P3.out.trans2 hu3 (fun k hk => by simp at hk; subst hk; exact .inl (foot_g _ _ _)), fun k hk => ?_, P4.out⟩
          rcases foot_or hk with h | h | h
          · subst h; exact .inl (foot_g _ _ _)
          · exact HF1.out k (foot_n _ h)
          · simp [Value.ownBlock] at h
        case measure => simp [intOf]; omega
    · have hd : decide ((i : Int) < (n : Int)) = false := by simp; omega
      obtain rfl : i = n := by omega
      have HZ := Lib.hid (show zs.take i = zs from List.take_of_length_le (by rw [HNL.out]; omega))
      rw [HZ.out] at hD hT
      have HFin := Lib.hid (show Fed w wr b g m f (feed m f zs (s, [])) vn vr u5 from ⟨vn0, vr0, hD, hT, hU, hF, hv5⟩)
      clear hD hT hU hF hv5
      go_wp2_with fail
      go_ret
      exact ⟨_, rfl, HFin.out⟩
end Go.Proofs.Ytpgbocdcjlcelaa
