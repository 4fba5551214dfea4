/- The walks of the library's sort of up to twelve numbers. -/
import Derived.Test.YtekdoannpkifaaaMr2
namespace Go.Proofs.Ytekdoannpkifaaa
open Go.ChangeShapes Go.WideShapes Go.ChangeAt Go.RowKit

def SomeI (w : World) (r : Ending) (w' : World) : Prop := (∃ m : Int, r = .returned (.int .i64 m)) ∧ w = w'
set_option maxRecDepth 100000 in
set_option maxHeartbeats 4000000 in
theorem len64_small : ∀ n : Nat, n ≤ 12 → ∀ w : World, Calls Try.prog 44 #[.int .u64 n] w (SomeI w)
  | 0, _, w => by go_enter Try.func44, Try.ntmps44; go_wp2; go_ret; exact ⟨⟨_, rfl⟩, rfl⟩
  | 1, _, w => by go_enter Try.func44, Try.ntmps44; go_wp2; go_ret; exact ⟨⟨_, rfl⟩, rfl⟩
  | 2, _, w => by go_enter Try.func44, Try.ntmps44; go_wp2; go_ret; exact ⟨⟨_, rfl⟩, rfl⟩
  | 3, _, w => by go_enter Try.func44, Try.ntmps44; go_wp2; go_ret; exact ⟨⟨_, rfl⟩, rfl⟩
  | 4, _, w => by go_enter Try.func44, Try.ntmps44; go_wp2; go_ret; exact ⟨⟨_, rfl⟩, rfl⟩
  | 5, _, w => by go_enter Try.func44, Try.ntmps44; go_wp2; go_ret; exact ⟨⟨_, rfl⟩, rfl⟩
  | 6, _, w => by go_enter Try.func44, Try.ntmps44; go_wp2; go_ret; exact ⟨⟨_, rfl⟩, rfl⟩
  | 7, _, w => by go_enter Try.func44, Try.ntmps44; go_wp2; go_ret; exact ⟨⟨_, rfl⟩, rfl⟩
  | 8, _, w => by go_enter Try.func44, Try.ntmps44; go_wp2; go_ret; exact ⟨⟨_, rfl⟩, rfl⟩
  | 9, _, w => by go_enter Try.func44, Try.ntmps44; go_wp2; go_ret; exact ⟨⟨_, rfl⟩, rfl⟩
  | 10, _, w => by go_enter Try.func44, Try.ntmps44; go_wp2; go_ret; exact ⟨⟨_, rfl⟩, rfl⟩
  | 11, _, w => by go_enter Try.func44, Try.ntmps44; go_wp2; go_ret; exact ⟨⟨_, rfl⟩, rfl⟩
  | 12, _, w => by go_enter Try.func44, Try.ntmps44; go_wp2; go_ret; exact ⟨⟨_, rfl⟩, rfl⟩
  | n + 13, h, _ => absurd h (by omega)
theorem len_small (n : Nat) (hn : n ≤ 12) (w : World) : Calls Try.prog 33 #[.int .u64 n] w (SomeI w) := by
  have H := Lib.hid (len64_small n hn)
  go_enter Try.func33, Try.ntmps33
  go_wp2_with fail
  refine (H.out _).mono ?_
  rintro r w' ⟨⟨m, rfl⟩, rfl⟩
  go_wp2_with fail
  go_ret
  exact ⟨⟨_, rfl⟩, rfl⟩
set_option maxRecDepth 100000 in
set_option maxHeartbeats 4000000 in
theorem pdq_small (w : World) (base : Nat) (v : Value) (ks : List Int) (h : URow w base v ks) (hl : ks.length ≤ 12) (lim : Int) :
    Calls Try.prog 32 #[v, .int .i64 0, .int .i64 ks.length, .int .i64 lim] w fun r w' => r = .returned (.tuple #[]) ∧ ∃ ys, ys.Perm ks ∧ Rises ys ∧ URow w' base v ys ∧ Upd v.ownBlock.toList w w' := by
  have H := Lib.hid (isort_any w base v ks h hl)
  obtain ⟨a, cap, rfl, -⟩ := h.form
  clear h
  generalize ks.length = n at *
  have hd : decide ((n : Int) ≤ 12) = true := by simp; omega
  go_enter Try.func32, Try.ntmps32
  go_wp2_with fail
  refine wp_loop_rounds 1 ?_
  rw [rounds_succ]
  go_wp2_with fail
  refine H.out.mono ?_
  rintro r w1 ⟨rfl, ys, h1, h2, h3, h4⟩
  have HE := Lib.hid (show ∃ ys, ys.Perm ks ∧ Rises ys ∧ URow w1 base (.slice a n cap) ys ∧ Upd (Value.slice a n cap).ownBlock.toList w w1 from ⟨ys, h1, h2, h3, h4⟩)
  clear h1 h2 h3 h4
  go_wp2_with fail
  exact bodyPost_ret (v := .tuple #[]) (results_none Try.results32 _ _ _) rfl ⟨rfl, HE.out⟩
set_option maxHeartbeats 4000000 in
theorem sort_small (w : World) (base : Nat) (v : Value) (ks : List Int) (h : URow w base v ks) (hl : ks.length ≤ 12) :
    Calls Try.prog 29 #[v] w fun r w' => r = .returned (.tuple #[]) ∧ ∃ ys, ys.Perm ks ∧ Rises ys ∧ URow w' base v ys ∧ Upd v.ownBlock.toList w w' := by
  have H := Lib.hid (fun lim => pdq_small w base v ks h hl lim)
  have HL := Lib.hid (fun W => len_small ks.length hl W)
  obtain ⟨a, cap, rfl, -⟩ := h.form
  clear h
  generalize ks.length = n at *
  go_enter Try.func29, Try.ntmps29
  go_wp2_with fail
  refine (HL.out _).mono ?_
  rintro r w1 ⟨⟨m, rfl⟩, rfl⟩
  go_wp2_with fail
  refine (H.out _).mono ?_
  rintro r w1 ⟨rfl, ys, h1, h2, h3, h4⟩
  have HE := Lib.hid (show ∃ ys, ys.Perm ks ∧ Rises ys ∧ URow w1 base (.slice a n cap) ys ∧ Upd (Value.slice a n cap).ownBlock.toList w w1 from ⟨ys, h1, h2, h3, h4⟩)
  clear h1 h2 h3 h4
  go_wp2_with fail
  go_end0
  exact ⟨rfl, HE.out⟩
end Go.Proofs.Ytekdoannpkifaaa
