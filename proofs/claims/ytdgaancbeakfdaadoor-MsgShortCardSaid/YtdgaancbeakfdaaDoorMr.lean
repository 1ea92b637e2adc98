/- MsgShort as the row wants it. -/
import Derived.Test.YtdgaancbeakfdaaDoorMs
import Derived.Test.YtdgaancbeakfdaaDoorKm
namespace Go.Proofs.YtdgaancbeakfdaaDoor.Mr
open Go.RowKit Go.Proofs.YtdgaancbeakfdaaDoorW.PrintWords Go.Proofs.YtdgaancbeakfdaaDoor.Q Go.Proofs.YtdgaancbeakfdaaDoor.Rt
theorem short (b0 b1 b2 b3 b4 b5 : Int) (A0 : Option Addr) (c0 : Nat) (l0 : List S42) (A1 : Option Addr) (c1 : Nat) (l1 : List Int) (w : World) (hr0 : Kd.C k42 w A0 l0.length l0) (hc0 : l0.length ≤ c0) {P R S : Prop}
    (hV0 : (Lit.int .i64 b0).wf = true ∧ (Lit.int .i64 b1).wf = true ∧ (Lit.int .i64 b2).wf = true ∧ (Lit.int .i64 b3).wf = true ∧ (Lit.int .i64 b4).wf = true ∧ (Lit.int .i64 b5).wf = true ∧ P)
    (hr1 : Kd.C (Kd.int .i64) w A1 l1.length l1) (hc1 : l1.length ≤ c1) (hV1 : R ∧ S ∧ ∀ x ∈ l1, (Lit.int .i64 x).wf = true) :
    Calls Tryd.prog 6 #[.agg #[.int .i64 b0, .int .i64 b1, .int .i64 b2, .int .i64 b3, .int .i64 b4, .int .i64 b5, .slice A0 l0.length c0], .slice A1 l1.length c1] w fun e w' => e = .returned (.bool true) ∧ Below w.heap.size w w' :=
  Ms.short_any b0 b1 b2 b3 b4 b5 A0 c0 l0 A1 c1 l1 w hr0 hc0 hr1 hc1 (Fbk.int64_bd' hV0.1) (Fbk.int64_bd' hV0.2.1) (Fbk.int64_bd' hV0.2.2.1) (Fbk.int64_bd' hV0.2.2.2.1) (Fbk.int64_bd' hV0.2.2.2.2.1) (Fbk.int64_bd' hV0.2.2.2.2.2.1) (fun x hx => Fbk.int64_bd' (hV1.2.2 x hx))
end Go.Proofs.YtdgaancbeakfdaaDoor.Mr
