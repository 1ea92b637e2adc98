/- The steps of a region that draws its order, taken in the order of the text: shorter. -/
import Derived.Test.YtpgifeoigconbaaDoorKt
namespace Go.Proofs.YtpgifeoigconbaaDoor.Mo
open Go.RowKit Go.Proofs.YtpgifeoigconbaaDoorW.PrintWords Go.Proofs.YtpgifeoigconbaaDoorW.PrintLast
/-- of n operations the first k are done -/
def upT (n k : Nat) : Array Bool := ((List.range n).map (fun j => decide (j < k))).toArray
theorem pu {P : Program} {ops : Array Oper} {Q : Exit → Act → World → Prop} {md : Region.Mode} {S : World → Prop} {ds : List Nat} {n k : Nat} (d : Nat) {oi : Oper} {v : Value} {fuel : Nat} {a : Act} {w : World}
    (hi : ops[k]? = some oi) (hN : oi.dst = some (d + k)) (hc : anyB md ops (upT n k) (upT n (k + 1)) k = true)
    (hQ : ∀ c a w, Q (.panic c) (a.put oi.dst v) w → Q (.panic c) a w) (hy : Yields P ops oi v a) {a' : Act} (ha : a.put (some (d + k)) v = a')
    (h : wpAnyLast P md ops Q S ds fuel (upT n (k + 1)) a' w) : wpAnyLast P md ops Q S ds (fuel + 1) (upT n k) a w :=
  pure_ (i := k) (N := some (d + k)) (v := v) (a' := a') (upT n (k + 1)) hi hN hc hQ hy ha h
/-- a load, whose cell S names -/
theorem tu {P : Program} {ops : Array Oper} {Q : Exit → Act → World → Prop} {md : Region.Mode} {S : World → Prop} {ds : List Nat} {n k : Nat} (d : Nat) {oi : Oper} {v : Value} {fuel : Nat} {a : Act} {w : World}
    (hi : ops[k]? = some oi) (hN : oi.dst = some (d + k)) (hc : takeB md ops ds (upT n k) (upT n (k + 1)) k = true)
    (hQ : ∀ c a w, Q (.panic c) (a.put oi.dst v) w → Q (.panic c) a w) (hy : YieldsIf P ops S oi v a) (hS : S w) {a' : Act} (ha : a.put (some (d + k)) v = a')
    (h : wpAnyLast P md ops Q S ds fuel (upT n (k + 1)) a' w) : wpAnyLast P md ops Q S ds (fuel + 1) (upT n k) a w :=
  take_ (i := k) (N := some (d + k)) (v := v) (a' := a') (upT n (k + 1)) hi hN hc hQ hy hS ha h
end Go.Proofs.YtpgifeoigconbaaDoor.Mo
