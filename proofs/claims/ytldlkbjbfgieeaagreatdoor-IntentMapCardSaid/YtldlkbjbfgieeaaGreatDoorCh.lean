/- intent.change: an operation done to a state of one's own. -/
import Derived.Test.YtldlkbjbfgieeaaGreatDoorPuW
import Derived.Test.YtldlkbjbfgieeaaGreatDoorSp
import Derived.Deep.RegionHeld3
import Derived.IntWalk
namespace Go.Proofs.YtldlkbjbfgieeaaGreatDoor.Ch
set_option linter.unusedVariables false
set_option linter.unusedSimpArgs false
open Go.RowKit Go.Proofs.YtldlkbjbfgieeaaGreatDoorW.PrintWords Go.Proofs.YtldlkbjbfgieeaaGreatDoorW.PrintLast Go.Proofs.YtldlkbjbfgieeaaGreatDoor.Mo Go.Proofs.YtldlkbjbfgieeaaGreatDoor.Q Go.Proofs.YtldlkbjbfgieeaaGreatDoor.Rw Go.Proofs.YtldlkbjbfgieeaaGreatDoor.Cb
abbrev W := S32
abbrev N := S34
/-- a state's struct at block g, its rows -/
def St (w0 w : World) (g : Nat) (e : Int) (V U : Value) (ws : List W) (ns : List N) : Prop :=
  w.heap[g]? = some (.cells #[.int .i64 e, V, U] 27 (0, 0)) ∧ w0.heap.size ≤ g ∧ k32.R 32 w w0.heap.size (fun _ => True) V ws ∧ k34.R 34 w w0.heap.size (fun _ => True) U ns
/-- the operation's value -/
abbrev opV (k : Int) (x : W) (y : N) (id : ByteArray) (want : Int) : Value := .agg #[.int .i64 k, .string x.f0, .int .i64 x.f1, .int .i64 x.f2, .int .i64 x.f3, .int .i64 x.f4, .string x.f5, .string y.f0, .int .i64 y.f1, .int .i64 y.f2, .string y.f3, .bool y.f4, .string id, .int .i64 want]
abbrev opC (k : Int) (x : W) (y : N) (id : ByteArray) (want : Int) : Obj := .cells #[.int .i64 k, .string x.f0, .int .i64 x.f1, .int .i64 x.f2, .int .i64 x.f3, .int .i64 x.f4, .string x.f5, .string y.f0, .int .i64 y.f1, .int .i64 y.f2, .string y.f3, .bool y.f4, .string id, .int .i64 want] 36
abbrev opC' (k : Int) (x : W) (y : N) (id : ByteArray) (want : Int) : Obj := .cells #[.int .i64 k, .string x.f0, .int .i64 x.f1, .int .i64 x.f2, .int .i64 x.f3, .int .i64 x.f4, .string x.f5, .string y.f0, .int .i64 y.f1, .int .i64 y.f2, .string y.f3, .bool y.f4, .string id, .int .i64 want] 36 (0, 0)
/-- what becomes of a state, and the error -/
def chS (e : Int) (ws : List W) (ns : List N) (k : Int) (x : W) (y : N) (id : ByteArray) (want : Int) : Int × List W × List N × Int :=
  if k = 1 then (e, (PuW.putS ws x).1, ns, (PuW.putS ws x).2)
  else if k = 4 then (e, ws, (PuN.putS ns y).1, (PuN.putS ns y).2)
  else if k = 8 then (if e = 1099511627776 then (0, [], [], 120) else (e + 1, ws, ns, 0))
  else if k = 2 then (if FiW.has ws id = true then (e, ws.set (FiW.pos ws id) { ws.getD (FiW.pos ws id) z32 with f1 := want }, ns, 0) else (0, [], [], 122))
  else if k = 3 then (if FiW.has ws id = true then (e, ws.take (FiW.pos ws id) ++ ws.drop (FiW.pos ws id + 1), ns, 0) else (0, [], [], 122))
  else if k = 5 then (if FiN.has ns id = true then (e, ws, ns.take (FiN.pos ns id) ++ ns.drop (FiN.pos ns id + 1), 0) else (0, [], [], 122))
  else (if FiN.has ns id = true then (e, ws, ns.set (FiN.pos ns id) { ns.getD (FiN.pos ns id) z34 with f4 := decide (k = 6) }, 0) else (0, [], [], 122))
/-- what is no row of workloads or nodes, and not at block g, stays -/
def Fr (g : Nat) (w w' : World) : Prop := w.heap.size ≤ w'.heap.size ∧ ∀ k t cs, w.heap[k]? = some (.cells cs t (0, 0)) → k ≠ g → t ≠ 32 → t ≠ 34 → w'.heap[k]? = w.heap[k]?
theorem Fr.below {g : Nat} {w w' : World} (hb : Below w.heap.size w w') : Fr g w w' := ⟨hb.size, fun k t cs h _ _ _ => hb.block k (blk_lt h)⟩
theorem Fr.trans {g : Nat} {w w' w2 : World} (h : Fr g w w') (h' : Fr g w' w2) : Fr g w w2 := ⟨Nat.le_trans h.1 h'.1, fun k t cs hk h1 h2 h3 => (h'.2 k t cs ((h.2 k t cs hk h1 h2 h3).trans hk) h1 h2 h3).trans (h.2 k t cs hk h1 h2 h3)⟩
theorem Fr.drew {g : Nat} {w w' : World} (h : Fr g w w') : Fr g w w'.drew := h
theorem Fr.set {g j : Nat} {w w' : World} {v : Value} (h : Fr g w w') : Fr g w (w'.setCell ⟨g, j, none⟩ v) := h.trans ⟨by simp [World.setCell], fun k t cs hk h1 _ _ => Below.heap_setCell _ _ _ k h1⟩
theorem Fr.row {g e : Nat} {α : Type} {d : Kd α} {w w' : World} {base : Nat} {ok : Nat → Prop} {V : Value} {l : List α} (hR : d.R e w base ok V l) (he : e = 32 ∨ e = 34) (hG : w.grownBy w' V.ownBlock) : Fr g w w' :=
  ⟨hG.size, fun k t cs hk _ h2 h3 => hG.block k (blk_lt hk) (Kd.R_ne hR hk (by rcases he with rfl | rfl; exact fun e => h2 e.symm; exact fun e => h3 e.symm))⟩
def ChPost (w0 w : World) (g : Nat) (r : Int × List W × List N × Int) (e : Ending) (w' : World) : Prop := e = .returned (.int .i64 r.2.2.2) ∧ Below w0.heap.size w0 w' ∧ Fr g w w' ∧ (r.2.2.2 = 0 → ∃ V U, St w0 w' g r.1 V U r.2.1 r.2.2.1)
/-- a state is as it was where something new was laid alone -/
theorem St.below {w0 w w' : World} {g : Nat} {e : Int} {V U : Value} {ws : List W} {ns : List N} (h : St w0 w g e V U ws ns) (hb : Below w.heap.size w w') : St w0 w' g e V U ws ns := ⟨blk_below h.1 hb, h.2.1, Kd.R_below h.2.2.1 hb, Kd.R_below h.2.2.2 hb⟩
theorem St.drew {w0 w : World} {g : Nat} {e : Int} {V U : Value} {ws : List W} {ns : List N} (h : St w0 w g e V U ws ns) : St w0 w.drew g e V U ws ns := h.below (below_drew (Below.refl _ _))
theorem ownW {w : World} {base : Nat} {ok : Nat → Prop} {A : Option Addr} {n c : Nat} {l : List W} (h : k32.R 32 w base ok (.slice A n c) l) (hl : 0 < l.length) : ∃ q, A = some ⟨q, 0, none⟩ := by
  rcases (InW.R_iff.1 h).2.2 with ⟨_, h0⟩ | ⟨q, cap, cur, e, _⟩
  · omega
  · injection e with e; exact ⟨q, e⟩
theorem ownN {w : World} {base : Nat} {ok : Nat → Prop} {A : Option Addr} {n c : Nat} {l : List N} (h : k34.R 34 w base ok (.slice A n c) l) (hl : 0 < l.length) : ∃ q, A = some ⟨q, 0, none⟩ := by
  rcases (InN.R_iff.1 h).2.2 with ⟨_, h0⟩ | ⟨q, cap, cur, e, _⟩
  · omega
  · injection e with e; exact ⟨q, e⟩
theorem setWant {w : World} {base q n c p : Nat} {ok : Nat → Prop} {l : List W} (h : k32.R 32 w base ok (.slice (some ⟨q, 0, none⟩) n c) l) (hp : p < n) (want : Int) :
    (∃ u, w.cell? ⟨q, p * 6 + 1, none⟩ = some u) ∧ w.frozen? ⟨q, p * 6 + 1, none⟩ = false ∧ k32.R 32 (w.setCell ⟨q, p * 6 + 1, none⟩ (.int .i64 want)) base ok (.slice (some ⟨q, 0, none⟩) n c) (l.set p { l.getD p z32 with f1 := want }) ∧ w.grownBy (w.setCell ⟨q, p * 6 + 1, none⟩ (.int .i64 want)) (some q) := by
  obtain ⟨cc, h1, h2, h3, h4⟩ := Kd.R_elem h z32 (p : Int) (by omega) (by omega)
  rw [Int.toNat_natCast] at h2 h3 h4
  have hc := k32_openM h2
  subst hc
  have h5 := Kd.R_seg (okp := fun _ => False) h (p : Int) (by omega) (by omega) (seg := [.int .i64 want]) (j := 1) h1 (by rw [Int.toNat_natCast]; exact h3) (Nat.le_of_ble_eq_true rfl) (x' := { l.getD p z32 with f1 := want }) (k32_mkM _ _ _ _) (fun _ hf => hf.elim)
  rw [Int.toNat_natCast] at h5
  exact ⟨⟨_, h3 1 _ rfl⟩, h4 1, h5.1, h5.2⟩
theorem setCord {w : World} {base q n c p : Nat} {ok : Nat → Prop} {l : List N} (h : k34.R 34 w base ok (.slice (some ⟨q, 0, none⟩) n c) l) (hp : p < n) (b : Bool) :
    (∃ u, w.cell? ⟨q, p * 5 + 4, none⟩ = some u) ∧ w.frozen? ⟨q, p * 5 + 4, none⟩ = false ∧ k34.R 34 (w.setCell ⟨q, p * 5 + 4, none⟩ (.bool b)) base ok (.slice (some ⟨q, 0, none⟩) n c) (l.set p { l.getD p z34 with f4 := b }) ∧ w.grownBy (w.setCell ⟨q, p * 5 + 4, none⟩ (.bool b)) (some q) := by
  obtain ⟨cc, h1, h2, h3, h4⟩ := Kd.R_elem h z34 (p : Int) (by omega) (by omega)
  rw [Int.toNat_natCast] at h2 h3 h4
  have hc := k34_openM h2
  subst hc
  have h5 := Kd.R_seg (okp := fun _ => False) h (p : Int) (by omega) (by omega) (seg := [.bool b]) (j := 4) h1 (by rw [Int.toNat_natCast]; exact h3) (Nat.le_of_ble_eq_true rfl) (x' := { l.getD p z34 with f4 := b }) (k34_mkM _ _ _ _) (fun _ hf => hf.elim)
  rw [Int.toNat_natCast] at h5
  exact ⟨⟨_, h3 4 _ rfl⟩, h4 4, h5.1, h5.2⟩
theorem has_lt {ws : List W} {id : ByteArray} (h : FiW.has ws id = true) : FiW.pos ws id < ws.length := by
  unfold FiW.has at h
  simp only [Bool.and_eq_true, decide_eq_true_eq] at h
  exact h.1
theorem has_ltN {ns : List N} {id : ByteArray} (h : FiN.has ns id = true) : FiN.pos ns id < ns.length := by
  unfold FiN.has at h
  simp only [Bool.and_eq_true, decide_eq_true_eq] at h
  exact h.1
end Go.Proofs.YtldlkbjbfgieeaaGreatDoor.Ch
