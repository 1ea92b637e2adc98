/- IntentMap, as the row wants it. -/
import Derived.Test.YtldlkbjbfgieeaaGreatDoorIm
namespace Go.Proofs.YtldlkbjbfgieeaaGreatDoor.Mr
open Go.RowKit Go.Proofs.YtldlkbjbfgieeaaGreatDoorW.PrintWords Go.Proofs.YtldlkbjbfgieeaaGreatDoor.Q
open Go.Proofs.YtldlkbjbfgieeaaGreatDoor.La (In64)
theorem wf_in {y : Int} (h : (Lit.int .i64 y).wf = true) : In64 y := by
  unfold In64
  simpa [Lit.wf, IntKind.min, IntKind.max, IntKind.signed, IntKind.bits] using h
theorem raws_in {l : List S40} {p q : Prop} {b0 b1 : S40 → Prop} (hV : p ∧ q ∧ ∀ x ∈ l, (Lit.int .i64 x.f0).wf = true ∧ (Lit.int .i64 x.f1).wf = true ∧ (Lit.int .i64 x.f2).wf = true ∧ b0 x ∧ b1 x ∧ ∀ y ∈ x.f3, (Lit.int .i64 y).wf = true) :
    ∀ x ∈ l, In64 x.f0 ∧ In64 x.f1 ∧ In64 x.f2 ∧ ∀ z ∈ x.f3, In64 z := fun x hx => ⟨wf_in (hV.2.2 x hx).1, wf_in (hV.2.2 x hx).2.1, wf_in (hV.2.2 x hx).2.2.1, fun z hz => wf_in ((hV.2.2 x hx).2.2.2.2.2 z hz)⟩
theorem map_row (A : Option Addr) (c : Nat) (l : List S40) (w : World) (hr : Kd.C k40 w A l.length l) (hc : l.length ≤ c) {p q : Prop} {b0 b1 : S40 → Prop} (hV : p ∧ q ∧ ∀ x ∈ l, (Lit.int .i64 x.f0).wf = true ∧ (Lit.int .i64 x.f1).wf = true ∧ (Lit.int .i64 x.f2).wf = true ∧ b0 x ∧ b1 x ∧ ∀ y ∈ x.f3, (Lit.int .i64 y).wf = true) :
    Calls Tryz.prog 6 #[.slice A l.length c] w fun e w' => e = .returned (.bool true) ∧ Below w.heap.size w w' :=
  Im.map_any A c l w hr hc (raws_in hV)
end Go.Proofs.YtldlkbjbfgieeaaGreatDoor.Mr
