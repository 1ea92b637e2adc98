/- IntentUndoes, as the row wants it. -/
import Derived.Test.YtldlkbjbfgieeaaGreatDoorUn
import Derived.Test.YtldlkbjbfgieeaaGreatDoorAw
namespace Go.Proofs.YtldlkbjbfgieeaaGreatDoor.Ur
open Go.RowKit Go.Proofs.YtldlkbjbfgieeaaGreatDoorW.PrintWords Go.Proofs.YtldlkbjbfgieeaaGreatDoor.Q
open Go.Proofs.YtldlkbjbfgieeaaGreatDoor.La (In64)
theorem wf_in {y : Int} (h : (Lit.int .i64 y).wf = true) : In64 y := by
  unfold In64
  simpa [Lit.wf, IntKind.min, IntKind.max, IntKind.signed, IntKind.bits] using h
theorem raws_in {l : List S40} {p q : Prop} {b0 b1 : S40 → Prop} (hV : p ∧ q ∧ ∀ x ∈ l, (Lit.int .i64 x.f0).wf = true ∧ (Lit.int .i64 x.f1).wf = true ∧ (Lit.int .i64 x.f2).wf = true ∧ b0 x ∧ b1 x ∧ ∀ y ∈ x.f3, (Lit.int .i64 y).wf = true) :
    ∀ x ∈ l, In64 x.f0 ∧ In64 x.f1 ∧ In64 x.f2 ∧ ∀ z ∈ x.f3, In64 z := fun x hx => ⟨wf_in (hV.2.2 x hx).1, wf_in (hV.2.2 x hx).2.1, wf_in (hV.2.2 x hx).2.2.1, fun z hz => wf_in ((hV.2.2 x hx).2.2.2.2.2 z hz)⟩
theorem undoes_row (A : Option Addr) (c : Nat) (l : List S40) (f0 f1 f2 : Int) (A1 : Option Addr) (c1 : Nat) (f3 : List Int) (w : World) (hr : Kd.C k40 w A l.length l) (hc : l.length ≤ c) {p q : Prop} {b0 b1 : S40 → Prop} (hV : p ∧ q ∧ ∀ x ∈ l, (Lit.int .i64 x.f0).wf = true ∧ (Lit.int .i64 x.f1).wf = true ∧ (Lit.int .i64 x.f2).wf = true ∧ b0 x ∧ b1 x ∧ ∀ y ∈ x.f3, (Lit.int .i64 y).wf = true)
    (hr1 : Kd.C (Kd.int .i64) w A1 f3.length f3) (hc1 : f3.length ≤ c1) {p1 q1 : Prop} (hV1 : (Lit.int .i64 f0).wf = true ∧ (Lit.int .i64 f1).wf = true ∧ (Lit.int .i64 f2).wf = true ∧ p1 ∧ q1 ∧ ∀ y ∈ f3, (Lit.int .i64 y).wf = true) :
    Calls Tryz.prog 4 #[.slice A l.length c, .agg #[.int .i64 f0, .int .i64 f1, .int .i64 f2, .slice A1 f3.length c1]] w fun e w' => e = .returned (.bool true) ∧ Below w.heap.size w w' :=
  Un.undoes_any Aw.awake_any A c l w hr hc (raws_in hV) ⟨f0, f1, f2, f3⟩ A1 c1 hc1 hr1 ⟨wf_in hV1.1, wf_in hV1.2.1, wf_in hV1.2.2.1, fun z hz => wf_in (hV1.2.2.2.2.2 z hz)⟩
end Go.Proofs.YtldlkbjbfgieeaaGreatDoor.Ur
