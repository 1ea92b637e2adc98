/- What an argument of a law reads as: whole numbers, bools, texts, structs and slices of these, opened to the print's own kinds. -/
/- thin -/
import Derived.Test.YtldlkbjbfgieeaaGreatDoorMo
import Derived.Test.YtldlkbjbfgieeaaGreatDoorKw
import Derived.SizedLaws
import Derived.ChangeArms
import Derived.DataReads
namespace Go.Proofs.YtldlkbjbfgieeaaGreatDoor.Open
open Go.RowKit Go.Proofs.YtldlkbjbfgieeaaGreatDoorW.PrintWords
section
variable {H : Type} {enc : TypeId × Value → H} {P : Program} {w : World} {base : Nat} {spare : Nat → Bool} {held : Bool}
def Opens {α H : Type} (enc : TypeId × Value → H) (P : Program) (w : World) (base : Nat) (spare : Nat → Bool) (held : Bool) (t : TypeId) (d : Kd α) (V : α → Prop) : Prop :=
 ∀ (fuel : Nat) (cs : List Value) (x : DataW H × List MemPlace), DataW.trod enc P w base spare held fuel t cs = some x → (∀ n ∈ x.1.weights P t, n ≤ reachBytes) → ∃ a : α, d.K w a cs ∧ V a
theorem Opens.imp {α : Type} {t : TypeId} {d : Kd α} {V V' : α → Prop} (h : Opens enc P w base spare held t d V) (hv : ∀ a, V a → V' a) : Opens enc P w base spare held t d V' := fun fuel cs x ht hw => by
 obtain ⟨a, h1, h2⟩ := h fuel cs x ht hw
 exact ⟨a, h1, hv a h2⟩
theorem opens_int {t : TypeId} {k : IntKind} (hu : P.underlying t = some (.int k)) : Opens enc P w base spare held t (Kd.int k) (fun n => (Lit.int k n).wf = true) := by
 intro fuel cs x h _
 obtain ⟨n, rfl, _, hw⟩ := DataW.trod_int hu h
 exact ⟨n, rfl, hw⟩
theorem list_of {α : Type} {p : Nat → α → Prop} : ∀ n : Nat, (∀ i, i < n → ∃ x, p i x) → ∃ xs : List α, xs.length = n ∧ ∀ i x, xs[i]? = some x → p i x
 | 0, _ => ⟨[], rfl, fun i x h => by simp at h⟩
 | n + 1, h => by
   obtain ⟨xs, hl, hx⟩ := list_of n (fun i hi => h i (by omega))
   obtain ⟨y, hy⟩ := h n (by omega)
   refine ⟨xs ++ [y], by simp [hl], fun i x hi => ?_⟩
   rcases Nat.lt_or_ge i xs.length with hlt | hge
   ·rw [List.getElem?_append_left hlt] at hi; exact hx i x hi
   ·have := (List.getElem?_eq_some_iff.1 hi).1
    rw [List.length_append, List.length_singleton] at this
    obtain rfl : i = xs.length := by omega
    have : y = x := by simpa using hi
    subst this
    rw [hl]; exact hy
theorem weights_all {e : TypeId} {n : Nat} : ∀ {l : List (DataW H)} {d : DataW H}, d ∈ l → n ∈ d.weights P e → n ∈ DataW.weightsAll P e l
 | a :: l, d, hd, hn => by
   simp only [DataW.weightsAll, List.mem_append]
   rcases List.mem_cons.1 hd with rfl | hd
   ·exact .inl hn
   ·exact .inr (weights_all hd hn)
 | [], _, hd, _ => by cases hd
/-- a slice is what its places are -/
theorem opens_slice {α : Type} {t e B : Nat} {d : Kd α} {V : α → Prop} (hu : P.underlying t = some (.slice e)) (he : Opens enc P w base spare held e d V) (hs : P.cellsOf e = d.sz) (hB : P.bytesOf e = B) :
 Opens enc P w base spare held t (Kd.slice e d) (fun xs => xs.length ≤ maxLen ∧ xs.length * B ≤ 140737488351232 ∧ ∀ x ∈ xs, V x) := by
 intro fuel cs x h hw
 rcases DataW.trod_slice hu h with ⟨rfl, _⟩ | ⟨a, len, cap, elems, rest, n, _, rfl, rfl, hb, hl, hm, hlen, hel, _, _⟩
 ·exact ⟨[], ⟨none, 0, rfl, Nat.le_refl _, rfl, by simp, fun h0 => absurd h0 (by simp)⟩, by simp, by simp, fun x hx => by cases hx⟩
 ·have hw' : ∀ n' ∈ (elems.length + rest.length) * P.bytesOf e :: (DataW.weightsAll P e (elems.map (·.1)) ++ DataW.weightsAll P e (rest.map (·.1))), n' ≤ reachBytes := by
   intro n' hn'
   apply hw
   simp only [DataW.weights, hu, List.length_map]
   exact hn'
  obtain ⟨xs, hxl, hx⟩ := list_of (p := fun i v => V v ∧ ∃ c, c.length = d.sz ∧ d.K w v c ∧ ∀ j u, c[j]? = some u → w.cell? (a.add (i * d.sz + j)) = some u) len (fun i hi => by
   have hb := hel i hi
   rw [List.getElem?_eq_getElem (by omega)] at hb
   obtain ⟨cs', h1, h2⟩ := Option.bind_eq_some_iff.1 hb
   obtain ⟨v, hk, hv⟩ := he n cs' _ h2 (fun n' hn' => hw' n' (List.mem_cons_of_mem _ (List.mem_append_left _ (weights_all (List.mem_map.2 ⟨_, List.getElem_mem (h := by omega), rfl⟩) hn'))))
   obtain ⟨_, hlen', hcell⟩ := World.cells?_some h1
   refine ⟨v, hv, cs', by rw [hlen', hs], hk, fun j u hj => ?_⟩
   have hjl : j < P.cellsOf e := by have := (List.getElem?_eq_some_iff.1 hj).1; omega
   have := hcell j hjl
   rw [hj] at this
   rw [← this, ← hs]
   congr 1
   unfold Addr.add
   by_cases q1 : i * P.cellsOf e = 0 <;> by_cases q2 : j = 0 <;> simp [q1, q2, Nat.add_assoc])
  refine ⟨xs, ⟨some a, cap, by rw [hxl], by omega, rfl, by unfold maxLen at hm; omega, fun _ => ⟨a, rfl, fun j p hj => (hx j p hj).2⟩⟩, by omega, ?_, fun x hxm => ?_⟩
  ·have := hw' _ List.mem_cons_self
   rw [hB] at this
   rw [hxl, ← hlen]
   exact Nat.le_trans (Nat.mul_le_mul_right _ (by omega)) this
  ·obtain ⟨j, hj⟩ := List.getElem?_of_mem hxm
   exact (hx j x hj).1
/-- the fields of a struct from one on -/
def OpensF {β H : Type} (enc : TypeId × Value → H) (P : Program) (w : World) (base : Nat) (spare : Nat → Bool) (held : Bool) (fs : List Field) (off : Nat) (d : Kd β) (V : β → Prop) : Prop :=
 ∀ (n : Nat) (cs : List Value) (xs : List (DataW H × List MemPlace)), cs.length = off + d.sz → xs.length = fs.length →
  (∀ (i : Nat) (f : Field), fs[i]? = some f → DataW.trod enc P w base spare held n f.type ((cs.drop f.offset).take (P.cellsOf f.type)) = xs[i]?) →
  (∀ (i : Nat) (f : Field) (x : DataW H × List MemPlace), fs[i]? = some f → xs[i]? = some x → ∀ m ∈ x.1.weights P f.type, m ≤ reachBytes) → ∃ b : β, d.K w b (cs.drop off) ∧ V b
theorem opensF_one {α : Type} {f : Field} {off : Nat} {d : Kd α} {V : α → Prop} (ho : f.offset = off) (hs : P.cellsOf f.type = d.sz) (h : Opens enc P w base spare held f.type d V) : OpensF enc P w base spare held [f] off d V := by
 intro n cs xs hc hl ht hw
 obtain ⟨x, rfl⟩ : ∃ x, xs = [x] := List.length_eq_one_iff.1 hl
 have h0 := ht 0 f rfl
 rw [ho, hs, List.take_of_length_le (by rw [List.length_drop]; omega)] at h0
 exact h n _ x h0 (hw 0 f x rfl rfl)
theorem opensF_cons {α β : Type} {f : Field} {fs : List Field} {off : Nat} {d : Kd α} {V : α → Prop} {d' : Kd β} {V' : β → Prop} (ho : f.offset = off) (hs : P.cellsOf f.type = d.sz)
 (h : Opens enc P w base spare held f.type d V) (h' : OpensF enc P w base spare held fs (off + d.sz) d' V') : OpensF enc P w base spare held (f :: fs) off (Kd.pair d d') (fun x => V x.1 ∧ V' x.2) := by
 intro n cs xs hc hl ht hw
 obtain ⟨x, xs, rfl⟩ : ∃ x ys, xs = x :: ys := List.exists_cons_of_length_pos (by rw [hl]; simp)
 have hc' : cs.length = off + (d.sz + d'.sz) := hc
 have h0 := ht 0 f rfl
 rw [ho, hs] at h0
 obtain ⟨a, ha, hva⟩ := h n _ x h0 (hw 0 f x rfl rfl)
 obtain ⟨b, hb, hvb⟩ := h' n cs xs (by omega) (by simpa using hl) (fun i g hg => by have := ht (i + 1) g (by simpa using hg); simpa using this) (fun i g y hg hy => hw (i + 1) g y (by simpa using hg) (by simpa using hy))
 refine ⟨(a, b), ⟨_, _, ?_, ha, hb⟩, hva, hvb⟩
 rw [← List.drop_drop, List.take_append_drop]
theorem opens_struct {α : Type} {t : TypeId} {fs : Array Field} {d : Kd α} {V : α → Prop} (hu : P.underlying t = some (.struct fs)) (hs : P.cellsOf t = d.sz) (h : OpensF enc P w base spare held fs.toList 0 d V) : Opens enc P w base spare held t d V := by
 intro fuel cs x hx hw
 obtain ⟨xs, n, _, rfl, hc, hl, ht⟩ := DataW.trod_struct hu hx
 have := h n cs xs (by omega) (by rw [hl]; simp) (fun i f hf => ht i f (by simpa using hf)) (fun i f y hf hy m hm => by
  apply hw
  simp only [DataW.weights, hu]
  exact DataW.weights_mem_each (j := i) (by rw [List.getElem?_map, hf]; rfl) (by rw [List.getElem?_map, hy]; rfl) m hm)
 simpa using this
theorem opens_iso {α β : Type} {t : TypeId} {d : Kd α} {V : α → Prop} (f : β → α) (hf : ∀ a, ∃ b, f b = a) (h : Opens enc P w base spare held t d V) : Opens enc P w base spare held t (Kd.iso d f) (fun b => V (f b)) := by
 intro fuel cs x hx hw
 obtain ⟨a, h1, h2⟩ := h fuel cs x hx hw
 obtain ⟨b, rfl⟩ := hf a
 exact ⟨b, h1, h2⟩
/-- an argument of a law -/
theorem opened {α : Type} {t : TypeId} {d : Kd α} {V : α → Prop} {v : Value} {x : DataW H} {ps : List MemPlace} {ts : List TypeId} {ds : List (DataW H)} {j : Nat} (h : Opens enc P w base spare held t d V)
 (hsz : (DataW.weightsEach P ts ds).all (· ≤ reachBytes) = true) (ht : ts[j]? = some t) (hd : ds[j]? = some x) (hx : DataW.Trod enc P w base spare held t v x ps) : ∃ a : α, d.K w a v.cells.toList ∧ V a := by
 obtain ⟨fuel, hf⟩ := hx
 refine h fuel _ _ hf (fun n hn => ?_)
 have := List.all_eq_true.1 hsz n (DataW.weights_mem_each ht hd n hn)
 simpa using this
end
end Go.Proofs.YtldlkbjbfgieeaaGreatDoor.Open
