/- A state between the rounds of a law, and its rows. -/
/- thin -/
import Derived.Test.YtldlkbjbfgieeaaGreatDoorSu
import Derived.Test.YtldlkbjbfgieeaaGreatDoorOf
namespace Go.Proofs.YtldlkbjbfgieeaaGreatDoor.Is
set_option linter.unusedVariables false
set_option linter.unusedSimpArgs false
open Go.RowKit Go.Proofs.YtldlkbjbfgieeaaGreatDoorW.PrintWords Go.Proofs.YtldlkbjbfgieeaaGreatDoorW.PrintLast Mo Q Rw Cb Ch Ap Go.Proofs.YtldlkbjbfgieeaaGreatDoor.St Su Ft Go.Proofs.YtldlkbjbfgieeaaGreatDoor.Op Of
open Go.Proofs.YtldlkbjbfgieeaaGreatDoor.La (In64 raw)
open Go.Proofs.YtldlkbjbfgieeaaGreatDoor.Ri (rightS rightO stV Small)
def RawAt (w : World) (ra : Addr) (X : S40) (Ar : Option Addr) (cr : Nat) : Prop := w.cell? ra = some (.int .i64 X.f0) ∧ w.cell? ⟨ra.block, ra.off + 1, none⟩ = some (.int .i64 X.f1) ∧ w.cell? ⟨ra.block, ra.off + 2, none⟩ = some (.int .i64 X.f2) ∧ w.cell? ⟨ra.block, ra.off + 3, none⟩ = some (.slice Ar X.f3.length cr)
theorem rowW_below {w0 w w' : World} {A : Option Addr} {l : List W} (h : RoW w0 w A l) (hb : Below w.heap.size w w') : RoW w0 w' A l := h.imp fun c h => Kd.R_below h hb
theorem rowN_below {w0 w w' : World} {A : Option Addr} {l : List N} (h : RoN w0 w A l) (hb : Below w.heap.size w w') : RoN w0 w' A l := h.imp fun c h => Kd.R_below h hb
theorem rowW_lower {w0 w1 w : World} {A : Option Addr} {l : List W} (h : RoW w1 w A l) (hb : w0.heap.size ≤ w1.heap.size) : RoW w0 w A l := h.imp fun c h => Kd.R_lower h hb
theorem rowN_lower {w0 w1 w : World} {A : Option Addr} {l : List N} (h : RoN w1 w A l) (hb : w0.heap.size ≤ w1.heap.size) : RoN w0 w A l := h.imp fun c h => Kd.R_lower h hb
theorem rowW_C {w0 w : World} {A : Option Addr} {l : List W} (h : RoW w0 w A l) : Kd.C k32 w A l.length l := h.elim fun c h => (Kd.R_reads' h).2.2
theorem rowN_C {w0 w : World} {A : Option Addr} {l : List N} (h : RoN w0 w A l) : Kd.C k34 w A l.length l := h.elim fun c h => (Kd.R_reads' h).2.2
theorem rowW_set {w0 w : World} {A : Option Addr} {l : List W} {g : Nat} {cs : Array Value} (h : RoW w0 w A l) (hb : w.heap[g]? = some (.cells cs 27 (0, 0))) (a0 a1 a2 : Value) : RoW w0 (((w.setCell ⟨g, 0, none⟩ a0).setCell ⟨g, 1, none⟩ a1).setCell ⟨g, 2, none⟩ a2) A l := h.imp fun c h => R_put3 h hb (by decide) a0 a1 a2
theorem rowN_set {w0 w : World} {A : Option Addr} {l : List N} {g : Nat} {cs : Array Value} (h : RoN w0 w A l) (hb : w.heap[g]? = some (.cells cs 27 (0, 0))) (a0 a1 a2 : Value) : RoN w0 (((w.setCell ⟨g, 0, none⟩ a0).setCell ⟨g, 1, none⟩ a1).setCell ⟨g, 2, none⟩ a2) A l := h.imp fun c h => R_put3 h hb (by decide) a0 a1 a2
/-- the state s between the rounds -/
def Fs (w w' : World) (g : Nat) (e : Int) (A B : Option Addr) (c d : Nat) (ws : List W) (ns : List N) : Prop := w'.heap[g]? = some (.cells #[.int .i64 e, .slice A ws.length c, .slice B ns.length d] 27 (0, 0)) ∧ RoW w w' A ws ∧ RoN w w' B ns ∧ Below w.heap.size w w'
theorem Fs.below {w w' w2 : World} {g : Nat} {e : Int} {A B : Option Addr} {c d : Nat} {ws : List W} {ns : List N} (h : Fs w w' g e A B c d ws ns) (hb : Below w'.heap.size w' w2) : Fs w w2 g e A B c d ws ns := ⟨blk_below h.1 hb, rowW_below h.2.1 hb, rowN_below h.2.2.1 hb, below_then h.2.2.2 h.2.2.2.size hb⟩
theorem Fs.far {w w' : World} {g x : Nat} {e : Int} {A B : Option Addr} {c d : Nat} {ws : List W} {ns : List N} {cs : Array Value} (h : Fs w w' g e A B c d ws ns) (hx : g ≠ x) (hge : w.heap.size ≤ x) (hb : w'.heap[x]? = some (.cells cs 27 (0, 0))) (a0 a1 a2 : Value) : Fs w (((w'.setCell ⟨x, 0, none⟩ a0).setCell ⟨x, 1, none⟩ a1).setCell ⟨x, 2, none⟩ a2) g e A B c d ws ns :=
 ⟨blk_far (p := ⟨x, 2, none⟩) (blk_far (p := ⟨x, 1, none⟩) (blk_far (p := ⟨x, 0, none⟩) h.1 hx a0) hx a1) hx a2, rowW_set h.2.1 hb a0 a1 a2, rowN_set h.2.2.1 hb a0 a1 a2, ((h.2.2.2.setCell (p := ⟨x, 0, none⟩) hge a0).setCell (p := ⟨x, 1, none⟩) hge a1).setCell (p := ⟨x, 2, none⟩) hge a2⟩
theorem up {w w' : World} {p : Addr} {v : Value} (h : Below w.heap.size w w') (hx : w.cell? p = some v) : w'.cell? p = some v := (h.cell (World.block_lt_of_cell? w _ hx)).trans hx
theorem sOf {w w' : World} {g : Nat} {e : Int} {A B : Option Addr} {c d : Nat} {ws : List W} {ns : List N} (h : Fs w w' g e A B c d ws ns) {ra : Addr} {X : S40} {Ar : Option Addr} {cr : Nat} (hr : RawAt w ra X Ar cr) :
 w'.cell? ⟨g, 0, none⟩ = some (.int .i64 e) ∧ w'.cell? ⟨g, 1, none⟩ = some (.slice A ws.length c) ∧ w'.cell? ⟨g, 2, none⟩ = some (.slice B ns.length d) ∧ w'.cell? ra = some (.int .i64 X.f0) ∧ w'.cell? ⟨ra.block, ra.off + 1, none⟩ = some (.int .i64 X.f1) ∧ w'.cell? ⟨ra.block, ra.off + 2, none⟩ = some (.int .i64 X.f2) ∧ w'.cell? ⟨ra.block, ra.off + 3, none⟩ = some (.slice Ar X.f3.length cr) :=
 ⟨(blk_cell h.1 0).trans rfl, (blk_cell h.1 1).trans rfl, (blk_cell h.1 2).trans rfl, up h.2.2.2 hr.1, up h.2.2.2 hr.2.1, up h.2.2.2 hr.2.2.1, up h.2.2.2 hr.2.2.2⟩
end Go.Proofs.YtldlkbjbfgieeaaGreatDoor.Is
