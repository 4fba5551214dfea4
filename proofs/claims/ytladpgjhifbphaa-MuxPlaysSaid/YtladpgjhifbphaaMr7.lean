/- The walks of the document's Live, of Xid and of 'same'. -/
import Derived.Test.YtladpgjhifbphaaMr6
namespace Go.Proofs.Ytladpgjhifbphaa
open Go.ChangeShapes Go.WideShapes Go.ChangeAt Go.RowKit

theorem sizeU : (Try.prog.info? 22).map (·.size) = some 1 := by kernel_rfl
theorem URow.app {w : World} {base : Nat} {v x : Value} {l m : List Int} (h : URow w base v l) (hx : SrcRow w 1 x m.length (uv m)) (hl : l.length + m.length ≤ 1000) (hb : base ≤ w.heap.size) (ty : TypeId) :
    ∃ v' w', (Builtin.append_ #[29, 29] ty #[v, x]).run Try.prog w = .ok v' w' ∧ URow w' base v' (l ++ m) ∧ Upd v.ownBlock.toList w w' := by
  obtain ⟨v', w', h1, h2, h3, _⟩ := own_append (P := Try.prog) (t := 29) (ty := ty) Try.underlying29 infoU rfl (by decide) h hx (by unfold maxLen; omega) (by omega) hb
  refine ⟨v', w', h1, ?_, h3⟩
  unfold URow
  rw [show uv (l ++ m) = uv l ++ uv m by simp [uv], List.length_append]
  exact h2
theorem URow.head {w : World} {base : Nat} {v : Value} {ys : List Int} (h : URow w base v ys) (k : Nat) (hk : k ≤ ys.length) :
    ∃ v', (Instr.sliceAt 29 v none (some (.int .i64 k)) none).run Try.prog w = .ok v' w ∧ SrcRow w 1 v' (ys.take k).length (uv (ys.take k)) := by
  obtain ⟨v', h1, h2⟩ := own_head (P := Try.prog) (t := 29) h (uv_one ys) Try.underlying29 sizeU k hk
  refine ⟨v', h1, ?_⟩
  rw [Nat.mul_one] at h2
  rw [show (ys.take k).length = k by rw [List.length_take]; omega, show uv (ys.take k) = (uv ys).take k by simp [uv, List.map_take]]
  exact h2
theorem URow.tail {w : World} {base : Nat} {v : Value} {ys : List Int} (h : URow w base v ys) (k : Nat) (hk : k ≤ ys.length) :
    ∃ v', (Instr.sliceAt 29 v (some (.int .i64 k)) none none).run Try.prog w = .ok v' w ∧ SrcRow w 1 v' (ys.drop k).length (uv (ys.drop k)) := by
  obtain ⟨v', h1, h2⟩ := own_tail (P := Try.prog) (t := 29) h (uv_one ys) Try.underlying29 sizeU k hk
  refine ⟨v', h1, ?_⟩
  rw [Nat.mul_one] at h2
  rw [List.length_drop, show uv (ys.drop k) = (uv ys).drop k by simp [uv, List.map_drop]]
  exact h2
/-- A number is put into its place. -/
def insK (ys : List Int) (k : Nat) (x : Int) : List Int := ys.take k ++ [x] ++ ys.drop k
theorem insK_perm (ys : List Int) (k : Nat) (x : Int) : (insK ys k x).Perm (ys ++ [x]) := by
  unfold insK
  have h1 : (ys.take k ++ [x] ++ ys.drop k).Perm (ys.take k ++ ys.drop k ++ [x]) := by
    rw [List.append_assoc, List.append_assoc]
    exact (List.Perm.refl _).append List.perm_append_comm
  rwa [List.take_append_drop] at h1
theorem insK_pair {ys : List Int} {k : Nat} {x : Int} (h : ys.Pairwise (· ≤ ·)) (h1 : ∀ p (hp : p < ys.length), p < k → ys[p] < x) (h2 : ∀ hk : k < ys.length, x ≤ ys[k]) : (insK ys k x).Pairwise (· ≤ ·) := by
  have hs := h
  rw [← List.take_append_drop k ys, List.pairwise_append] at hs
  obtain ⟨p1, p2, p3⟩ := hs
  have hx : ∀ b ∈ ys.drop k, x ≤ b := by
    intro b hb
    obtain ⟨i, hi, rfl⟩ := List.getElem_of_mem hb
    rw [List.length_drop] at hi
    rw [List.getElem_drop]
    have hk : k < ys.length := by omega
    have h3 := h2 hk
    by_cases h0 : i = 0
    · subst h0; simpa using h3
    · have := (List.pairwise_iff_getElem.1 h) k (k + i) hk (by omega) (by omega)
      omega
  have ht : ∀ a ∈ ys.take k, a < x := by
    intro a ha
    obtain ⟨i, hi, rfl⟩ := List.getElem_of_mem ha
    rw [List.length_take] at hi
    rw [List.getElem_take]
    exact h1 i (by omega) (by omega)
  unfold insK
  rw [List.append_assoc, List.pairwise_append]
  refine ⟨p1, ?_, ?_⟩
  · rw [List.singleton_append, List.pairwise_cons]; exact ⟨hx, p2⟩
  · intro a ha b hb
    rw [List.singleton_append, List.mem_cons] at hb
    rcases hb with rfl | hb
    · exact Int.le_of_lt (ht a ha)
    · exact p3 a ha b hb

/-- Where the document's Live stands. -/
structure RLive (w : World) (nx most : Int) (v : Value) (l : List MC) (v3 : Value) (i : Nat) (ys : List Int) (W : World) : Prop where
  row : URow W (w.heap.size + 1) v3 ys
  perm : ys.Perm ((l.map MC.k).take i)
  ord : ys.Pairwise (· ≤ ·)
  box : W.heap[w.heap.size]? = some (.cells #[.int .u32 nx, .int .i64 most, v] 54 (0, 0))
  ext : Ext w W
theorem RLive.grow {w W W' : World} {nx most : Int} {v v3 : Value} {l : List MC} {i : Nat} {ys : List Int} (h : RLive w nx most v l v3 i ys W) (hx : Ext W W') : RLive w nx most v l v3 i ys W' := ⟨h.row.ext hx, h.perm, h.ord, hx.heap h.box, h.ext.trans hx⟩

set_option maxRecDepth 100000 in
set_option maxHeartbeats 8000000 in
theorem refLive (w : World) (base : Nat) (nx most : Int) (v : Value) (l : List MC) (h : CRow w base v l) (hl : l.length ≤ 100) :
    Calls Try.prog 22 #[.agg #[.int .u32 nx, .int .i64 most, v]] w fun r w' => ∃ v' ys, r = .returned v' ∧ ys.Perm (l.map MC.k) ∧ ys.Pairwise (· ≤ ·) ∧ URow w' w.heap.size v' ys ∧ Ext w w' := by
  have H := Lib.hid h
  obtain ⟨a, cap, rfl, -⟩ := h.form
  obtain ⟨n, hn⟩ : ∃ n, n = l.length := ⟨_, rfl⟩
  rw [← hn] at H hl ⊢
  have HN := Lib.hid hn
  clear h hn
  go_enter Try.func22, Try.ntmps22
  go_wp2_with fail
  go_loopw [3, 4] (fun u v4 wr => ∃ v3 i ys, v3 = u ∧ i ≤ n ∧ v4 = .int .i64 (i : Nat) ∧ RLive w nx most (.slice a n cap) l v3 i ys wr) (fun _ v4 _ => n - (intOf v4).toNat)
  case atStart => exact ⟨_, 0, [], rfl, by omega, rfl, URow.nil _ _, by simp, List.Pairwise.nil, heap_alloc_new w _, (Ext.refl w).alloc _⟩
  case round =>
    obtain ⟨v3, i, ys, rfl, hi, rfl, hM⟩ := hrel
    have HM := Lib.hid hM
    have HYl := Lib.hid (show ys.length = i by rw [hM.perm.length_eq, List.length_take, List.length_map, ← HN.out]; omega)
    obtain ⟨s0, s1, s2, -, -, -⟩ := blk3 hM.box
    have lz := lt_of_heap hM.box
    obtain ⟨a3, c3, rfl, h3c, h3m, -⟩ := hM.row.form
    rw [HYl.out] at HM h3c ⊢
    unfold maxLen at h3m
    clear hM
    by_cases hin : i < n
    · have hd : decide (i < n) = true := by simpa using hin
      have hi0 : (0 : Int) ≤ (i : Int) := by omega
      have hi1 : (i : Int) < (n : Int) := by omega
      have hil : i < l.length := by rw [← HN.out]; exact hin
      obtain ⟨x, hx⟩ : ∃ x, x = l[i].k := ⟨_, rfl⟩
      have HXx := Lib.hid hx
      have HRw := Lib.hid (fun W (hW : Ext w W) => show ∃ g, a = some ⟨g, 0, none⟩ ∧ g < W.heap.size ∧ W.cell? ⟨g, i * 3, none⟩ = some (.int .u32 x) ∧ n ≤ cap ∧ cap ≤ maxLen from by
        obtain ⟨a', cap', hv', hcl, hcm, hcell⟩ := (H.out.ext hW).form
        injection hv' with e1 _ e2
        subst e1 e2
        obtain ⟨g, e, hg, q0, -, -⟩ := hcell i hil
        exact ⟨g, e, hg, by rw [hx]; exact q0, by rw [HN.out]; exact hcl, hcm⟩)
      clear hx
      obtain ⟨wo, hwo⟩ : ∃ wo : World, wo = wr := ⟨_, rfl⟩
      subst hwo
      obtain ⟨g, rfl, -, -, hcl, hcm⟩ := HRw.out _ HM.out.ext
      unfold maxLen at hcm
      go_wp2_with fail
      go_loopw [5] (fun v5 wr => ∃ k : Nat, k ≤ i ∧ v5 = .int .i64 k ∧ (∀ p (hp : p < ys.length), p < k → ys[p] < x) ∧ Ext wo wr) (fun v5 _ => i - (intOf v5).toNat)
      case atStart => exact ⟨0, by omega, rfl, fun p _ hp => by omega, Ext.refl _⟩
      case round =>
        obtain ⟨k, hk, rfl, hlt, hxo⟩ := hrel
        have HLt := Lib.hid hlt
        have HM2 := Lib.hid (HM.out.grow hxo)
        have HXo := Lib.hid hxo
        clear hlt hxo s0 s1 s2 lz
        obtain ⟨s0, s1, s2, -, -, -⟩ := blk3 HM2.out.box
        have lz := lt_of_heap HM2.out.box
        obtain ⟨g', eg, hg, qx, -, -⟩ := HRw.out _ HM2.out.ext
        injection eg with eg
        injection eg with eg
        subst eg
        by_cases hki : k < i
        · obtain ⟨a3', c3', e3, -, -, hcell⟩ := HM2.out.row.form
          rw [HYl.out] at e3
          injection e3 with e1 _ e2
          subst e1 e2
          obtain ⟨g3, rfl, hg3, q3, -⟩ := hcell k (by rw [HYl.out]; exact hki)
          have hdk : decide (k < i) = true := by simpa using hki
          have hk0 : (0 : Int) ≤ (k : Int) := by omega
          have hk1 : (k : Int) < (i : Int) := by omega
          obtain ⟨yk, hyk⟩ : ∃ yk, yk = ys[k]'(by rw [HYl.out]; exact hki) := ⟨_, rfl⟩
          rw [← hyk] at q3
          have HYk := Lib.hid hyk
          clear hyk hcell
          by_cases hyx : yk < x
          · have hdy : decide (yk < x) = true := by simpa using hyx
            go_wp2_with fail
            go_quiet (fail)
            go_wp2_with fail
            go_roundw
            case rel => exact ⟨k + 1, by omega, by go_num, fun p hp hpk => by
              by_cases e : p = k
              · subst e; have := HYk.out; omega
              · exact HLt.out p hp (by omega), HXo.out.drewN _⟩
            case measure => simp [intOf]; omega
          · have hdy : decide (yk < x) = false := by simpa using hyx
            have HD := Lib.hid (show ∀ hk : k < ys.length, x ≤ ys[k] from fun _ => by have := HYk.out; omega)
            go_wp2_with fail
            go_quiet (fail)
            go_upto_region 8 with (fail)
            obtain ⟨W5, hW5⟩ : ∃ W5, W5 = wr.drewN nq := ⟨_, rfl⟩
            rw [← hW5]
            have M5 := Lib.hid (HM2.out.grow (show Ext wr W5 by rw [hW5]; exact (Ext.refl _).drewN _))
            clear hW5 HM2 s0 s1 s2 lz hg qx
            obtain ⟨v1, t1, t2⟩ := M5.out.row.head k (by rw [HYl.out]; exact hk)
            obtain ⟨v2, w2, p1, p2, p3⟩ := (URow.nil W5 W5.heap.size).app (m := ys.take k) t2 (by rw [List.length_take, HYl.out]; simp; omega) (Nat.le_refl _) 29
            rw [List.nil_append] at p2
            have hx2 := upd_nil_ext p3
            obtain ⟨v4, w4, r1, r2, r3⟩ := p2.push (by rw [List.length_take, HYl.out]; omega) hx2.size x 29
            have hfar : ∀ q ∈ v2.ownBlock.toList, W5.heap.size ≤ q := fun q hq => (World.ownsRow.lt p2 q (by simpa using hq)).1
            have hrow4 : URow w4 (w.heap.size + 1) (.slice (some ⟨g3, 0, none⟩) i c3) ys := ownsRow_upd (M5.out.row.ext hx2) r3 (fun q hq hm => by have h1 := hfar q hm; have h2 := (World.ownsRow.lt M5.out.row q hq).2; omega)
            obtain ⟨v5, y1, y2⟩ := hrow4.tail k (by rw [HYl.out]; exact hk)
            obtain ⟨v6, w6, z1, z2, z3⟩ := r2.app (m := ys.drop k) y2 (by rw [List.length_append, List.length_take, List.length_drop, HYl.out]; simp; omega) (Nat.le_trans hx2.size r3.size) 29
            have hx4 : Ext W5 w4 := r3.ext hx2 hfar
            have hfar4 : ∀ q ∈ v4.ownBlock.toList, W5.heap.size ≤ q := fun q hq => (World.ownsRow.lt r2 q (by simpa using hq)).1
            have hx6 : Ext W5 w6 := z3.ext hx4 hfar4
            have lz5 := lt_of_heap M5.out.box
            have HNx := Lib.hid (show RLive w nx most (.slice (some ⟨g, 0, none⟩) n cap) l v6 (i + 1) (insK ys k x) w6 from
              ⟨ownsRow_mono z2 (by omega), by
                refine (insK_perm ys k x).trans ?_
                rw [List.take_succ_eq_append_getElem (by rw [List.length_map]; exact hil), List.getElem_map, ← HXx.out]
                exact M5.out.perm.append (List.Perm.refl _), insK_pair M5.out.ord HLt.out HD.out, hx6.heap M5.out.box, M5.out.ext.trans hx6⟩)
            obtain ⟨s0, s1, s2, -, -, -⟩ := blk3 (hx2.heap M5.out.box)
            have lz := lt_of_heap (hx2.heap M5.out.box)
            obtain ⟨g', eg, hg, qx, -, -⟩ := HRw.out _ (M5.out.ext.trans hx2)
            injection eg with eg
            injection eg with eg
            subst eg
            have T1 := Lib.hid t1
            have P1 := Lib.hid p1
            have R1 := Lib.hid r1
            have Y1 := Lib.hid y1
            have Z1 := Lib.hid z1
            clear t1 t2 p1 p2 p3 hx2 r1 r2 r3 hfar hrow4 y1 y2 z1 z2 z3 hx4 hfar4 hx6 lz5
            go_wp2_with (first | ((with_reducible refine wpList_slice_run (o := ⟨some 36, .slice _ (.tmp 34) none (some (.tmp 35)) none, _, _, _, none⟩) rfl _ _ _ _ rfl _ _ _ ?_ ?_ ?_ _ T1.out ?_); (· rfl); (· rfl); (· rfl)) | ((with_reducible refine wpList_slice_run (o := ⟨some 50, .slice _ (.tmp 48) (some (.tmp 49)) none none, _, _, _, none⟩) rfl _ _ _ _ rfl _ _ _ ?_ ?_ ?_ _ Y1.out ?_); (· rfl); (· rfl); (· rfl)) | (at_builtin; refine wpList_append_run rfl (.tmp 33) (.tmp 36) _ rfl _ _ _ rfl rfl P1.out ?_) | (at_builtin; refine wpList_append_run rfl (.tmp 38) (.tmp 45) _ rfl _ _ _ rfl rfl R1.out ?_) | (at_builtin; refine wpList_append_run rfl (.tmp 47) (.tmp 50) _ rfl _ _ _ rfl rfl Z1.out ?_))
            go_roundw
            case rel => exact ⟨v6, i + 1, insK ys k x, rfl, by omega, by go_num, HNx.out⟩
            case measure => simp [intOf]; omega
        · obtain rfl : k = i := by omega
          have hdk : decide (k < k) = false := by simp
          have HD := Lib.hid (show ∀ hk : k < ys.length, x ≤ ys[k] from fun h => absurd h (by rw [HYl.out]; omega))
          go_wp2_with fail
          go_quiet (fail)
          go_upto_region 8 with (fail)
          obtain ⟨W5, hW5⟩ : ∃ W5, W5 = wr.drewN nq := ⟨_, rfl⟩
          rw [← hW5]
          have M5 := Lib.hid (HM2.out.grow (show Ext wr W5 by rw [hW5]; exact (Ext.refl _).drewN _))
          clear hW5 HM2 s0 s1 s2 lz hg qx
          obtain ⟨v1, t1, t2⟩ := M5.out.row.head k (by rw [HYl.out]; exact hk)
          obtain ⟨v2, w2, p1, p2, p3⟩ := (URow.nil W5 W5.heap.size).app (m := ys.take k) t2 (by rw [List.length_take, HYl.out]; simp; omega) (Nat.le_refl _) 29
          rw [List.nil_append] at p2
          have hx2 := upd_nil_ext p3
          obtain ⟨v4, w4, r1, r2, r3⟩ := p2.push (by rw [List.length_take, HYl.out]; omega) hx2.size x 29
          have hfar : ∀ q ∈ v2.ownBlock.toList, W5.heap.size ≤ q := fun q hq => (World.ownsRow.lt p2 q (by simpa using hq)).1
          have hrow4 : URow w4 (w.heap.size + 1) (.slice a3 k c3) ys := ownsRow_upd (M5.out.row.ext hx2) r3 (fun q hq hm => by have h1 := hfar q hm; have h2 := (World.ownsRow.lt M5.out.row q hq).2; omega)
          obtain ⟨v5, y1, y2⟩ := hrow4.tail k (by rw [HYl.out]; exact hk)
          obtain ⟨v6, w6, z1, z2, z3⟩ := r2.app (m := ys.drop k) y2 (by rw [List.length_append, List.length_take, List.length_drop, HYl.out]; simp; omega) (Nat.le_trans hx2.size r3.size) 29
          have hx4 : Ext W5 w4 := r3.ext hx2 hfar
          have hfar4 : ∀ q ∈ v4.ownBlock.toList, W5.heap.size ≤ q := fun q hq => (World.ownsRow.lt r2 q (by simpa using hq)).1
          have hx6 : Ext W5 w6 := z3.ext hx4 hfar4
          have lz5 := lt_of_heap M5.out.box
          have HNx := Lib.hid (show RLive w nx most (.slice (some ⟨g, 0, none⟩) n cap) l v6 (k + 1) (insK ys k x) w6 from
            ⟨ownsRow_mono z2 (by omega), by
              refine (insK_perm ys k x).trans ?_
              rw [List.take_succ_eq_append_getElem (by rw [List.length_map]; exact hil), List.getElem_map, ← HXx.out]
              exact M5.out.perm.append (List.Perm.refl _), insK_pair M5.out.ord HLt.out HD.out, hx6.heap M5.out.box, M5.out.ext.trans hx6⟩)
          obtain ⟨s0, s1, s2, -, -, -⟩ := blk3 (hx2.heap M5.out.box)
          have lz := lt_of_heap (hx2.heap M5.out.box)
          obtain ⟨g', eg, hg, qx, -, -⟩ := HRw.out _ (M5.out.ext.trans hx2)
          injection eg with eg
          injection eg with eg
          subst eg
          have T1 := Lib.hid t1
          have P1 := Lib.hid p1
          have R1 := Lib.hid r1
          have Y1 := Lib.hid y1
          have Z1 := Lib.hid z1
          clear t1 t2 p1 p2 p3 hx2 r1 r2 r3 hfar hrow4 y1 y2 z1 z2 z3 hx4 hfar4 hx6 lz5
          go_wp2_with (first | ((with_reducible refine wpList_slice_run (o := ⟨some 36, .slice _ (.tmp 34) none (some (.tmp 35)) none, _, _, _, none⟩) rfl _ _ _ _ rfl _ _ _ ?_ ?_ ?_ _ T1.out ?_); (· rfl); (· rfl); (· rfl)) | ((with_reducible refine wpList_slice_run (o := ⟨some 50, .slice _ (.tmp 48) (some (.tmp 49)) none none, _, _, _, none⟩) rfl _ _ _ _ rfl _ _ _ ?_ ?_ ?_ _ Y1.out ?_); (· rfl); (· rfl); (· rfl)) | (at_builtin; refine wpList_append_run rfl (.tmp 33) (.tmp 36) _ rfl _ _ _ rfl rfl P1.out ?_) | (at_builtin; refine wpList_append_run rfl (.tmp 38) (.tmp 45) _ rfl _ _ _ rfl rfl R1.out ?_) | (at_builtin; refine wpList_append_run rfl (.tmp 47) (.tmp 50) _ rfl _ _ _ rfl rfl Z1.out ?_))
          go_roundw
          case rel => exact ⟨v6, k + 1, insK ys k x, rfl, by omega, by go_num, HNx.out⟩
          case measure => simp [intOf]; omega
    · have hd : decide (i < n) = false := by simpa using hin
      obtain rfl : i = n := by omega
      go_wp2_with fail
      go_ret
      refine ⟨_, ys, rfl, ?_, HM.out.ord, ownsRow_mono HM.out.row (by omega), HM.out.ext⟩
      have := HM.out.perm
      rw [List.take_of_length_le (by rw [List.length_map, ← HN.out]; omega)] at this
      exact this
end Go.Proofs.Ytladpgjhifbphaa
