/- BoxKeeps, in the shape that the row asks for. -/
import Derived.Test.YtiipibmliffghaaBoxKeeps
namespace Go.Proofs.Ytiipibmliffghaa.Box
open Go Go.RowKit Go.Proofs.Ytiipibmliffghaa.Eng
theorem boxKeeps_walk {w : World} (A : Option Addr) (c : Nat) (rs : List Rec) (hr : Rd w 66 A rs.length (rs.flatMap recC)) (hcap : rs.length ≤ c) (hok : ∀ r ∈ rs, r.ok ∧ r.body.length ≤ 9223372036854775807) (tb : Bool) (sy : Int) (_ : (Lit.int .i64 sy).wf = true) (kp : Int) (_ : (Lit.int .i64 kp).wf = true) :
    Calls Try.prog 8 #[.slice A rs.length c, bV tb, iV sy, iV kp] w fun e w' => e = .returned (bV true) ∧ Below w.heap.size w w' := keeps_main A c rs hr hcap hok tb sy kp
end Go.Proofs.Ytiipibmliffghaa.Box
