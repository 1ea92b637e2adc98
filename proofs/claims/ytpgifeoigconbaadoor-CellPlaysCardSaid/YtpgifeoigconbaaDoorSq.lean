/- The steps of a region that draws its order, with what is always alike proved by itself: short to write. -/
import Derived.Test.YtpgifeoigconbaaDoorKl
import Derived.Test.YtpgifeoigconbaaDoorKt
namespace Go.Proofs.YtpgifeoigconbaaDoor.Mo
open Go.RowKit Go.Proofs.YtpgifeoigconbaaDoorW.PrintWords Go.Proofs.YtpgifeoigconbaaDoorW.PrintLast
/-- of n operations those are done whose bit stands -/
def bt (n m : Nat) : Array Bool := ((List.range n).map (fun j => m.testBit j)).toArray
section
variable {P : Program} {ops : Array Oper} {Q : Exit → Act → World → Prop} {md : Region.Mode} {S : World → Prop} {ds : List Nat} {fuel : Nat} {l : Array Bool} {a : Act} {w : World} {oi : Oper}
/-- an operation that reads no cell -/
theorem py (i N : Nat) (l' : Array Bool) (hi : ops[i]? = some oi) (hN : oi.dst = some N) {v : Value} {a' : Act} (hc : anyB md ops l l' i = true := by kernel_rfl)
    (hQ : ∀ c a w, Q (.panic c) (a.put oi.dst v) w → Q (.panic c) a w := by exact fun _ _ _ h => h) (hw : Region.wanted oi (yielded ops a.tmps) = true := by rfl) (hv : ∀ w', (execOp a.eval oi).run P w' = .ok (.value v) w' := by intro w'; go_simp; with_reducible rfl)
    (ha : a.put (some N) v = a' := by (simp only [Act.put, List.setIfInBounds_toArray, List.set_cons_zero, List.set_cons_succ, i64_w, i32_w, Nat.reduceAdd]; rfl)) (h : wpAnyLast P md ops Q S ds fuel l' a' w) : wpAnyLast P md ops Q S ds (fuel + 1) l a w :=
  pure_ (i := i) (N := some N) l' hi hN hc hQ (Or.inl ⟨hw, hv⟩) ha h
/-- one whose guard is off -/
theorem oy (i N : Nat) (l' : Array Bool) (hi : ops[i]? = some oi) (hN : oi.dst = some N) {a' : Act} (hc : anyB md ops l l' i = true := by kernel_rfl)
    (hQ : ∀ c a w, Q (.panic c) (a.put oi.dst undef) w → Q (.panic c) a w := by exact fun _ _ _ h => h) (hw : Region.wanted oi (yielded ops a.tmps) = false := by rfl)
    (ha : a.put (some N) undef = a' := by (simp only [Act.put, List.setIfInBounds_toArray, List.set_cons_zero, List.set_cons_succ, i64_w, i32_w, Nat.reduceAdd]; rfl)) (h : wpAnyLast P md ops Q S ds fuel l' a' w) : wpAnyLast P md ops Q S ds (fuel + 1) l a w :=
  pure_ (i := i) (N := some N) l' hi hN hc hQ (Or.inr ⟨hw, rfl⟩) ha h
/-- a load of a cell that S names -/
theorem ty (i N : Nat) (l' : Array Bool) (hi : ops[i]? = some oi) (hN : oi.dst = some N) (hS : S w) {v : Value} {a' : Act} (hc : takeB md ops ds l l' i = true := by kernel_rfl)
    (hQ : ∀ c a w, Q (.panic c) (a.put oi.dst v) w → Q (.panic c) a w := by exact fun _ _ _ h => h) (hw : Region.wanted oi (yielded ops a.tmps) = true := by rfl) (hv : ∀ w', S w' → (execOp a.eval oi).run P w' = .ok (.value v) w' := by intro w'; (try simp only [and_imp]); intros; go_simp; with_reducible rfl)
    (ha : a.put (some N) v = a' := by (simp only [Act.put, List.setIfInBounds_toArray, List.set_cons_zero, List.set_cons_succ, i64_w, i32_w, Nat.reduceAdd]; rfl)) (h : wpAnyLast P md ops Q S ds fuel l' a' w) : wpAnyLast P md ops Q S ds (fuel + 1) l a w :=
  take_ (i := i) (N := some N) l' hi hN hc hQ (Or.inl ⟨hw, hv⟩) hS ha h
/-- the one that comes next in any order -/
theorem oe (i N : Nat) (l' : Array Bool) (hi : ops[i]? = some oi) (hN : oi.dst = some N) (h : ∀ K : Act → World → Prop, Shut (∀ a' w', S w' → (S w' → wpAnyLast P md ops Q S ds fuel l' a' w') → K a' w') → if Region.wanted oi (yielded ops a.tmps) = true then Oper.wp P oi a w K Q else K (a.put (some N) undef) w) (hc : readyB md ops l l' i = true := by kernel_rfl) (hd : i ∉ ds := by decide) :
    wpAnyLast P md ops Q S ds (fuel + 1) l a w := one_ (i := i) (N := some N) l' hi hN hc hd h
/-- the temporaries told anew -/
theorem ny {a' : Act} (ha : a = a' := by (simp only [Act.put, List.setIfInBounds_toArray, List.set_cons_zero, List.set_cons_succ, i64_w, i32_w, Nat.reduceAdd]; rfl)) (h : wpAnyLast P md ops Q S ds fuel l a' w) : wpAnyLast P md ops Q S ds fuel l a w := norm_ ha h
theorem na {a' : Act} (h : wpAnyLast P md ops Q S ds fuel l a' w) (ha : a = a' := by (first | (simp only [putAll, Act.put, List.setIfInBounds_toArray, List.set_cons_zero, List.set_cons_succ]; done) | (simp only [putAll, Act.put, List.setIfInBounds_toArray, List.set_cons_zero, List.set_cons_succ]; rfl))) : wpAnyLast P md ops Q S ds fuel l a w := norm_ ha h
/-- a store -/
theorem sk {w1 : World} {K : Act → World → Prop} (h : K a w1) (hw : Region.wanted oi (yielded ops a.tmps) = true := by rfl) (hN : oi.dst = none := by rfl) (hrun : (execOp a.eval oi).run P w = .ok .skip w1 := by go_simp; rfl) : if Region.wanted oi (yielded ops a.tmps) = true then Oper.wp P oi a w K Q else K (a.put none undef) w := skip_ hw hN hrun h
/-- a call that comes next in any order; Post is its contract's -/
theorem oc (i N : Nat) (l' : Array Bool) (args : Array Value) {f : FuncId} {Post : Ending → World → Prop} (hC : Calls P f args w Post) (hi : ops[i]? = some oi) (hN : oi.dst = some N)
    {as : Array Operand} {ts : Array TypeId} (hop : oi.op = .call { callee := .value (.func f), args := as, argTypes := ts }) {fn : Func} (hf : P.funcs[f]? = some fn)
    (h : ∀ e w', Post e w' → ∃ v, e = .returned v ∧ S w' ∧ (S w' → wpAnyLast P md ops Q S ds fuel l' (a.put (some N) v) w'))
    (hname : (fn.name == "runtime.NumGoroutine") = false := by kernel_rfl) (hb : fn.body.isSome = true := by rfl) (hw : Region.wanted oi (yielded ops a.tmps) = true := by rfl)
    (hargs : as.map a.eval = args := by (try simp only [List.map_toArray, List.map_cons, List.map_nil]); rfl) (hc : readyB md ops l l' i = true := by kernel_rfl) (hd : i ∉ ds := by decide) : wpAnyLast P md ops Q S ds (fuel + 1) l a w := by
  refine one_ (i := i) (N := some N) l' hi hN hc hd (fun K hK => ?_)
  refine goes_ hf hname hb args hw hN hop hargs (hC.mono fun e w' hp => ?_)
  obtain ⟨v, rfl, hS, hk⟩ := h e w' hp
  exact ⟨v, rfl, hK.out _ _ hS hk⟩
end
end Go.Proofs.YtpgifeoigconbaaDoor.Mo
