/- The walk of the law DemarkFeeds. -/
import Derived.Test.YtpgbocdcjlcelaaDeO
import Derived.Test.YtpgbocdcjlcelaaDeM
namespace Go.Proofs.Ytpgbocdcjlcelaa
open Go.ChangeShapes Go.WideShapes Go.ChangeAt Go.RowKit

theorem refAll_holds : RefAll := fun w a n cap zs h hp hn m f hm hf => refAll04 w a n cap zs h hp hn m f hm hf
theorem demarkFeeds_walk (w : World) (a : Option Addr) (n cap : Nat) (zs : List Int) (h : IsRow .u8 w a n cap zs) (ha : a = none → cap = 0)
    (ra : Option Addr) (rn rc : Nat) (rss : List (List Int)) (hr : IsRows (fun a c => a = none → c = 0) w ra rn rc rss) (hra : ra = none → rc = 0)
    (ca : Option Addr) (cn cc : Nat) (cs : List Int) (hc : IsRow .i64 w ca cn cc cs) (hca : ca = none → cc = 0) (most : Int) (w0 : (Lit.int .i64 most).wf = true) (frags : Int) (w1 : (Lit.int .i64 frags).wf = true)
    (sa : Option Addr) (sn sc : Nat) (ss : List Int) (hs : IsRow .i64 w sa sn sc ss) (hsa : sa = none → sc = 0) :
    Calls Try.prog 3 #[.slice a n cap, .slice ra rn rc, .slice ca cn cc, .int .i64 most, .int .i64 frags, .slice sa sn sc] w fun r w' => r = .returned (.bool true) ∧ Ext w w' :=
  demarkFeeds_walk0 refAll_holds w a n cap zs h ha ra rn rc rss hr hra ca cn cc cs hc hca most w0 frags w1 sa sn sc ss hs hsa
end Go.Proofs.Ytpgbocdcjlcelaa
