/- Rows of elements of several cells: copied, appended to, as flat lists of cells. -/
/- thin -/
import Derived.Test.YtldlkbjbfgieeaaGreatDoorKq
import Derived.Laws.CopyRow
import Derived.Lib.AppendZerosOnto
import Derived.Lib.Overlaps
import Derived.Laws.Externs
import Derived.Lib.Hide
namespace Go.Proofs.YtldlkbjbfgieeaaGreatDoor.Rw
set_option linter.unusedVariables false
set_option linter.unusedSimpArgs false
open Go.RowKit Go.Proofs.YtldlkbjbfgieeaaGreatDoorW.PrintWords
theorem run_copy_wide {P : Program} (w : World) (dT sT ty elem : TypeId) (sz g o dLen dCap : Nat) (a : Addr) (sLen sCap : Nat) (cur : Array Value) (t : TypeId) (cs : List Value)
 (hu : P.underlying dT = some (.slice elem)) (hs : (P.info? elem).map (·.size) = some sz)
 (hg : w.heap[g]? = some (.cells cur t (0, 0))) (hn : cs.length = Nat.min sLen dLen * sz)
 (hsrc : ∀ j v, cs[j]? = some v → w.cell? (a.add j) = some v) (hfit : o + cs.length ≤ cur.size) (h1 : ∀ v ∈ cs, v.oneCell' = true) :
 (Builtin.copy_ #[dT, sT] ty #[.slice (some ⟨g, o, none⟩) dLen dCap, .slice (some a) sLen sCap]).run P w =
  .ok (goInt (Nat.min sLen dLen)) (w.setRow g (cur.toList.take o ++ cs ++ cur.toList.drop (o + cs.length)).toArray) := by
 have hl := run_loadCells_list (P := P) w a cs hsrc
 have hst := run_storeCells_at P g o t cs 0 cur w hg (by simpa using hfit) h1
 cases hq : P.info? elem with
 | none => simp [hq] at hs
 | some i =>
  have hi : i.size = sz := by simpa [hq] using hs
  simp [Builtin.copy_, run_underlying hu, Builtin.lenOf, Builtin.firstCells, sizeOf, typeInfo, hq, hi, ← hn, hl, hst]
theorem wp_copy_run {P : Program} (w : World) {o : Oper} {a : Act} {K : Act → World → Prop} {Q : Exit → Act → World → Prop} (d s : Operand) (t t' : TypeId)
 (ho : o.op = .call { callee := .builtin .copy, args := #[d, s], argTypes := #[t, t'] }) (v u : Value) (hd : a.eval d = v) (hs : a.eval s = u) {v' : Value} {w' : World}
 (hr : (Builtin.copy_ #[t, t'] o.type #[v, u]).run P w = .ok v' w') (h : K (a.put o.dst v') w') : o.wp P a w K Q := by
 unfold Oper.wp execOp
 simp only [ho, resolve, invoke, builtin, Sem.run_bind, Sem.run_pure, Result.andThen_ok, List.map_toArray, List.map_cons, List.map_nil, hd, hs, hr]
 exact h
theorem wpList_copy_run {P : Program} (w : World) {ops : Array Oper} {rest : List Oper} {o : Oper} {a : Act} {Q : Exit → Act → World → Prop} (hgd : o.guard = none) (d s : Operand) (t t' : TypeId)
 (ho : o.op = .call { callee := .builtin .copy, args := #[d, s], argTypes := #[t, t'] }) (v u : Value) (hd : a.eval d = v) (hs : a.eval s = u) {v' : Value} {w' : World}
 (hr : (Builtin.copy_ #[t, t'] o.type #[v, u]).run P w = .ok v' w') (h : wpList P ops Q rest (a.put o.dst v') w') : wpList P ops Q (o :: rest) a w :=
 wpList_plain hgd fun _ hK => wp_copy_run w d s t t' ho v u hd hs hr (hK _ _ h)
theorem step_copy_run {P : Program} {ops : Array Oper} {o : Oper} {a : Act} {w : World} {K : Act → World → Prop} {Q : Exit → Act → World → Prop} {E : Prop}
 (hg : o.guard = none) (d x : Operand) (dT sT : TypeId) (hop : o.op = Op.call { callee := Callee.builtin Builtin.copy, args := #[d, x], argTypes := #[dT, sT] })
 (v u : Value) (hd : a.eval d = v) (hx : a.eval x = u) {v' : Value} {w' : World} (hr : (Builtin.copy_ #[dT, sT] o.type #[v, u]).run P w = .ok v' w') (hK : K (a.put o.dst v') w') :
 if Region.wanted o (yielded ops a.tmps) = true then Oper.wp P o a w K Q else E := by
 have hw : Region.wanted o (yielded ops a.tmps) = true := by simp [Region.wanted, hg]
 rw [if_pos hw]
 unfold Oper.wp
 simp [execOp, hop, resolve, invoke, builtin, hd, hx, hr, Result.andThen]
 exact hK
/-- a list of elements by their cells, flat -/
theorem reps_flat {α : Type} {R : α → List Value → Prop} {f : α → List Value} {sz : Nat} (hf : ∀ x cs, R x cs ↔ cs = f x) (hs : ∀ x, (f x).length = sz) : ∀ (xs : List α) (inner : List Value), Reps R sz xs inner ↔ inner = xs.flatMap f
 | [], inner => by
   constructor
   ·intro h
    have := h.1
    simp at this
    simpa using this
   ·rintro rfl; exact Reps.none _ _
 | x :: xs, inner => by
   rw [List.flatMap_cons]
   constructor
   ·intro h
    have h0 := (hf _ _).1 (h.2 0 x rfl)
    rw [Nat.zero_mul, List.drop_zero] at h0
    have h1 : Reps R sz xs (inner.drop sz) := by
     refine ⟨by rw [List.length_drop, h.1, List.length_cons, Nat.add_mul]; omega, fun j p hj => ?_⟩
     have h2 := h.2 (j + 1) p (by simpa using hj)
     rw [List.drop_drop, show sz + j * sz = (j + 1) * sz by rw [Nat.add_mul]; omega]
     exact h2
    rw [← (reps_flat hf hs xs _).1 h1, ← h0, List.take_append_drop]
   ·rintro rfl
    refine ⟨?_, fun j p hj => ?_⟩
    ·have h1 := ((reps_flat hf hs xs _).2 rfl).1
     rw [List.length_append, hs, h1, List.length_cons, Nat.add_mul]; omega
    ·cases j with
     | zero =>
      obtain rfl : x = p := by simpa using hj
      rw [Nat.zero_mul, List.drop_zero, List.take_left' (hs x)]
      exact (hf _ _).2 rfl
     | succ j =>
      have h1 := ((reps_flat hf hs xs _).2 rfl).2 j p (by simpa using hj)
      rw [show (j + 1) * sz = sz + j * sz by rw [Nat.add_mul]; omega, ← List.drop_drop, List.drop_left' (hs x)]
      exact h1
theorem flat_len {α : Type} {f : α → List Value} {sz : Nat} (hs : ∀ x, (f x).length = sz) : ∀ xs : List α, (xs.flatMap f).length = xs.length * sz
 | [] => by simp
 | x :: xs => by rw [List.flatMap_cons, List.length_append, hs, flat_len hs xs, List.length_cons, Nat.add_mul]; omega
theorem flat_take {α : Type} {f : α → List Value} {sz : Nat} (hs : ∀ x, (f x).length = sz) : ∀ (xs : List α) (i : Nat), (xs.take i).flatMap f = (xs.flatMap f).take (i * sz)
 | [], i => by simp
 | x :: xs, 0 => by simp
 | x :: xs, i + 1 => by
   have h1 : (i + 1) * sz = sz + i * sz := by rw [Nat.add_mul]; omega
   have h2 := List.take_of_length_le (l := f x) (i := sz + i * sz) (by rw [hs]; omega)
   rw [List.take_succ_cons, List.flatMap_cons, List.flatMap_cons, flat_take hs xs i, List.take_append, hs, h1, h2, Nat.add_sub_cancel_left]
theorem flat_drop {α : Type} {f : α → List Value} {sz : Nat} (hs : ∀ x, (f x).length = sz) : ∀ (xs : List α) (i : Nat), (xs.drop i).flatMap f = (xs.flatMap f).drop (i * sz)
 | [], i => by simp
 | x :: xs, 0 => by simp
 | x :: xs, i + 1 => by
   have h1 : (i + 1) * sz = sz + i * sz := by rw [Nat.add_mul]; omega
   have h2 : (f x).drop (sz + i * sz) = [] := List.drop_eq_nil_of_le (by rw [hs]; omega)
   rw [List.drop_succ_cons, List.flatMap_cons, flat_drop hs xs i, List.drop_append, hs, h1, h2, Nat.add_sub_cancel_left, List.nil_append]
end Go.Proofs.YtldlkbjbfgieeaaGreatDoor.Rw
