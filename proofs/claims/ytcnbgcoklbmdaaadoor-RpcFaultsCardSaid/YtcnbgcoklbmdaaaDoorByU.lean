/- Around, Few and a number's bytes in the document's words. -/
import Derived.Test.YtcnbgcoklbmdaaaDoorBy
namespace Go.Proofs.YtcnbgcoklbmdaaaDoor
open Go.ChangeShapes Go.WideShapes Go.ChangeAt Go.RowKit

theorem refU32_any (n : Int) (hn0 : 0 ≤ n) (hn1 : n < 4294967296) (w : World) :
    Calls Tryd.prog 18 #[.int .u32 n] w fun r w' => r = .returned (.slice (some ⟨w.heap.size, 0, none⟩) 4 4) ∧ w' = w.alloc (.cells #[.int .u8 (n / 16777216), .int .u8 (n / 65536 % 256), .int .u8 (n / 256 % 256), .int .u8 (n % 256)] 5) := by
  go_enter Tryd.func18, Tryd.ntmps18
  go_wp2
  go_ret
  exact ⟨rfl, rfl⟩
theorem be4_row (n : Int) (hn0 : 0 ≤ n) (hn1 : n < 4294967296) (w : World) : IsRow .u8 (w.alloc (.cells #[.int .u8 (n / 16777216), .int .u8 (n / 65536 % 256), .int .u8 (n / 256 % 256), .int .u8 (n % 256)] 5)) (some ⟨w.heap.size, 0, none⟩) 4 4 (be4 n) := by
  refine ⟨rfl, by omega, by unfold maxLen; omega, be4_wf n hn0 hn1, .inr ⟨w.heap.size, 0, rfl, fun i hi => ?_⟩⟩
  match i, hi with
  | 0, _ => (simp only [World.cell?, heap_alloc_new]; rfl)
  | 1, _ => (simp only [World.cell?, heap_alloc_new]; rfl)
  | 2, _ => (simp only [World.cell?, heap_alloc_new]; rfl)
  | 3, _ => (simp only [World.cell?, heap_alloc_new]; rfl)
end Go.Proofs.YtcnbgcoklbmdaaaDoor
