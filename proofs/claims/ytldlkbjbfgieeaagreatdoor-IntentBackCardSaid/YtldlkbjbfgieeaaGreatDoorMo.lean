/- A few small words that the printed texts of this session use: the greater and the smaller of two numbers, shifts, looks ahead. -/
import Derived.Test.YtldlkbjbfgieeaaGreatDoorKw
import Derived.WalkKit
import Derived.Laws.Cover1
namespace Go.Proofs.YtldlkbjbfgieeaaGreatDoor.Mo
open Go.RowKit Go.Proofs.YtldlkbjbfgieeaaGreatDoorW.PrintWords
theorem max2_int (k k' : IntKind) (x y : Int) : Builtin.max2 (.int k x) (.int k' y) = pure (.int k (if x < y then y else x)) := by simp only [Builtin.max2, gt_iff_lt]
theorem min2_int (k k' : IntKind) (x y : Int) : Builtin.min2 (.int k x) (.int k' y) = pure (.int k (if y < x then y else x)) := by simp only [Builtin.min2]
theorem max_two (ats : Array TypeId) (ty : TypeId) (a b : Value) : Builtin.max_ ats ty #[a, b] = (Builtin.max2 a b >>= fun s => pure s) := by simp only [Builtin.max_, List.foldlM_cons, List.foldlM_nil]
theorem min_two (ats : Array TypeId) (ty : TypeId) (a b : Value) : Builtin.min_ ats ty #[a, b] = (Builtin.min2 a b >>= fun s => pure s) := by simp only [Builtin.min_, List.foldlM_cons, List.foldlM_nil]
theorem max_three (ats : Array TypeId) (ty : TypeId) (a b c : Value) : Builtin.max_ ats ty #[a, b, c] = (Builtin.max2 a b >>= fun s => Builtin.max2 s c >>= fun s => pure s) := by simp only [Builtin.max_, List.foldlM_cons, List.foldlM_nil]
theorem min_three (ats : Array TypeId) (ty : TypeId) (a b c : Value) : Builtin.min_ ats ty #[a, b, c] = (Builtin.min2 a b >>= fun s => Builtin.min2 s c >>= fun s => pure s) := by simp only [Builtin.min_, List.foldlM_cons, List.foldlM_nil]
theorem max_four (ats : Array TypeId) (ty : TypeId) (a b c d : Value) : Builtin.max_ ats ty #[a, b, c, d] = (Builtin.max2 a b >>= fun s => Builtin.max2 s c >>= fun s => Builtin.max2 s d >>= fun s => pure s) := by simp only [Builtin.max_, List.foldlM_cons, List.foldlM_nil]
theorem min_four (ats : Array TypeId) (ty : TypeId) (a b c d : Value) : Builtin.min_ ats ty #[a, b, c, d] = (Builtin.min2 a b >>= fun s => Builtin.min2 s c >>= fun s => Builtin.min2 s d >>= fun s => pure s) := by simp only [Builtin.min_, List.foldlM_cons, List.foldlM_nil]
section
variable {P : Program} {ops : Array Oper} {rest : List Oper} {o : Oper} {a : Act} {Q : Exit → Act → World → Prop} {W : World}
theorem gate_callee {f : FuncId} {as : Array Operand} {ts : Array TypeId} (_ho : o.op = .call { callee := .value (.func f), args := as, argTypes := ts }) (h : wpList P ops Q (o :: rest) a W) : wpList P ops Q (o :: rest) a W := h
theorem gate_builtin {b : Builtin} {xs : Array Operand} {ts : Array TypeId} (_ho : o.op = .call { callee := .builtin b, args := xs, argTypes := ts }) (h : wpList P ops Q (o :: rest) a W) : wpList P ops Q (o :: rest) a W := h
end
def mx (a b : Int) : Int := if a < b then b else a
def mn (a b : Int) : Int := if b < a then b else a
def shl (k : IntKind) (x y : Int) : Int := k.wrap (x * 2 ^ min y.toNat k.bits)
def shr (k : IntKind) (x y : Int) : Int := x / 2 ^ min y.toNat k.bits
theorem shl_small {k : IntKind} {x y j : Int} (h : shl k x y = j) (hy : y ≤ k.bits) : k.wrap (x * 2 ^ y.toNat) = j := by rw [← h]; unfold shl; rw [Nat.min_eq_left (by omega)]
end Go.Proofs.YtldlkbjbfgieeaaGreatDoor.Mo
namespace Go.Proofs.YtldlkbjbfgieeaaGreatDoor.Sl
open Go.RowKit
theorem bl_irr : ∀ x : List UInt8, Op.bytesLess x x = false
 | [] => rfl
 | a :: x => by simp [Op.bytesLess, bl_irr x]
theorem bl_asymm : ∀ x y : List UInt8, Op.bytesLess x y = true → Op.bytesLess y x = false
 | _, [] => by simp [Op.bytesLess]
 | [], _ :: _ => by simp [Op.bytesLess]
 | a :: x, b :: y => by
   have ih := bl_asymm x y
   simp only [Op.bytesLess, Bool.or_eq_true, Bool.and_eq_true, decide_eq_true_eq, beq_iff_eq, Bool.or_eq_false_iff, decide_eq_false_iff_not, Bool.and_eq_false_iff]
   rintro (h | ⟨rfl, h⟩)
   ·exact ⟨fun h2 => by rw [UInt8.lt_iff_toNat_lt] at h h2; omega, .inl (by rw [beq_eq_false_iff_ne]; rintro rfl; rw [UInt8.lt_iff_toNat_lt] at h; omega)⟩
   ·exact ⟨fun h2 => by rw [UInt8.lt_iff_toNat_lt] at h2; omega, .inr (ih h)⟩
theorem bl_tri : ∀ x y : List UInt8, Op.bytesLess x y = false → Op.bytesLess y x = false → x = y
 | [], [], _, _ => rfl
 | a :: x, [], _, h => by simp [Op.bytesLess] at h
 | [], b :: y, h, _ => by simp [Op.bytesLess] at h
 | a :: x, b :: y, h1, h2 => by
   simp only [Op.bytesLess, Bool.or_eq_false_iff, decide_eq_false_iff_not, Bool.and_eq_false_iff] at h1 h2
   have hab : a = b := by
    have p := h1.1; have q := h2.1
    rw [UInt8.lt_iff_toNat_lt] at p q
    exact UInt8.toNat_inj.1 (by omega)
   subst hab
   have e : (a == a) = true := by simp
   have p := h1.2.resolve_left (by rw [e]; simp)
   have q := h2.2.resolve_left (by rw [e]; simp)
   rw [bl_tri x y p q]
theorem bl_gtr (x y : List UInt8) : (!(Op.bytesLess x y || x == y)) = Op.bytesLess y x := by
 cases h : Op.bytesLess y x with
 | true =>
  have h1 := bl_asymm y x h
  have h2 : (x == y) = false := by rw [beq_eq_false_iff_ne]; rintro rfl; rw [bl_irr] at h; cases h
  rw [h1, h2]; rfl
 | false =>
  cases h2 : Op.bytesLess x y with
  | true => rfl
  | false => rw [bl_tri x y h2 h]; simp
theorem gtr_less (t : TypeId) (a b : ByteArray) : binOp .gtr t (.string a) (.string b) = pure (.bool (Op.bytesLess b.toList a.toList)) := by rw [binOp_string_gtr, bl_gtr]
theorem leq_less (t : TypeId) (a b : ByteArray) : binOp .leq t (.string a) (.string b) = pure (.bool (!(Op.bytesLess b.toList a.toList))) := by rw [binOp_string_leq, ← bl_gtr a.toList b.toList, Bool.not_not]
end Go.Proofs.YtldlkbjbfgieeaaGreatDoor.Sl
namespace Go.Proofs.YtldlkbjbfgieeaaGreatDoor.Mo
open Go.RowKit Go.Proofs.YtldlkbjbfgieeaaGreatDoorW.PrintWords Go.Proofs.YtldlkbjbfgieeaaGreatDoorW.PrintLast
/-- of n operations the first k are done -/
def upT (n k : Nat) : Array Bool := ((List.range n).map (fun j => decide (j < k))).toArray
theorem pu {P : Program} {ops : Array Oper} {Q : Exit → Act → World → Prop} {md : Region.Mode} {S : World → Prop} {ds : List Nat} {n k : Nat} (d : Nat) {oi : Oper} {v : Value} {fuel : Nat} {a : Act} {w : World}
 (hi : ops[k]? = some oi) (hN : oi.dst = some (d + k)) (hc : anyB md ops (upT n k) (upT n (k + 1)) k = true)
 (hQ : ∀ c a w, Q (.panic c) (a.put oi.dst v) w → Q (.panic c) a w) (hy : Yields P ops oi v a) {a' : Act} (ha : a.put (some (d + k)) v = a')
 (h : wpAnyLast P md ops Q S ds fuel (upT n (k + 1)) a' w) : wpAnyLast P md ops Q S ds (fuel + 1) (upT n k) a w :=
 pure_ (i := k) (N := some (d + k)) (v := v) (a' := a') (upT n (k + 1)) hi hN hc hQ hy ha h
/-- a load, whose cell S names -/
theorem tu {P : Program} {ops : Array Oper} {Q : Exit → Act → World → Prop} {md : Region.Mode} {S : World → Prop} {ds : List Nat} {n k : Nat} (d : Nat) {oi : Oper} {v : Value} {fuel : Nat} {a : Act} {w : World}
 (hi : ops[k]? = some oi) (hN : oi.dst = some (d + k)) (hc : takeB md ops ds (upT n k) (upT n (k + 1)) k = true)
 (hQ : ∀ c a w, Q (.panic c) (a.put oi.dst v) w → Q (.panic c) a w) (hy : YieldsIf P ops S oi v a) (hS : S w) {a' : Act} (ha : a.put (some (d + k)) v = a')
 (h : wpAnyLast P md ops Q S ds fuel (upT n (k + 1)) a' w) : wpAnyLast P md ops Q S ds (fuel + 1) (upT n k) a w :=
 take_ (i := k) (N := some (d + k)) (v := v) (a' := a') (upT n (k + 1)) hi hN hc hQ hy hS ha h
end Go.Proofs.YtldlkbjbfgieeaaGreatDoor.Mo
namespace Go.Proofs.YtldlkbjbfgieeaaGreatDoor.Mo
open Go.RowKit Go.Proofs.YtldlkbjbfgieeaaGreatDoorW.PrintWords Go.Proofs.YtldlkbjbfgieeaaGreatDoorW.PrintLast
/-- of n operations those are done whose bit stands -/
def bt (n m : Nat) : Array Bool := ((List.range n).map (fun j => m.testBit j)).toArray
section
variable {P : Program} {ops : Array Oper} {Q : Exit → Act → World → Prop} {md : Region.Mode} {S : World → Prop} {ds : List Nat} {fuel : Nat} {l : Array Bool} {a : Act} {w : World} {oi : Oper}
/-- an operation that reads no cell -/
theorem py (i N : Nat) (l' : Array Bool) (hi : ops[i]? = some oi) (hN : oi.dst = some N) {v : Value} {a' : Act} (hc : anyB md ops l l' i = true := by kernel_rfl)
 (hQ : ∀ c a w, Q (.panic c) (a.put oi.dst v) w → Q (.panic c) a w := by exact fun _ _ _ h => h) (hw : Region.wanted oi (yielded ops a.tmps) = true := by rfl) (hv : ∀ w', (execOp a.eval oi).run P w' = .ok (.value v) w' := by intro w'; go_simp; with_reducible rfl)
 (ha : a.put (some N) v = a' := by (simp only [Act.put, List.setIfInBounds_toArray, List.set_cons_zero, List.set_cons_succ, i64_w, i32_w, Nat.reduceAdd]; rfl)) (h : wpAnyLast P md ops Q S ds fuel l' a' w) : wpAnyLast P md ops Q S ds (fuel + 1) l a w :=
 pure_ (i := i) (N := some N) l' hi hN hc hQ (Or.inl ⟨hw, hv⟩) ha h
/-- one whose guard is off -/
theorem oy (i N : Nat) (l' : Array Bool) (hi : ops[i]? = some oi) (hN : oi.dst = some N) {a' : Act} (hc : anyB md ops l l' i = true := by kernel_rfl)
 (hQ : ∀ c a w, Q (.panic c) (a.put oi.dst undef) w → Q (.panic c) a w := by exact fun _ _ _ h => h) (hw : Region.wanted oi (yielded ops a.tmps) = false := by rfl)
 (ha : a.put (some N) undef = a' := by (simp only [Act.put, List.setIfInBounds_toArray, List.set_cons_zero, List.set_cons_succ, i64_w, i32_w, Nat.reduceAdd]; rfl)) (h : wpAnyLast P md ops Q S ds fuel l' a' w) : wpAnyLast P md ops Q S ds (fuel + 1) l a w :=
 pure_ (i := i) (N := some N) l' hi hN hc hQ (Or.inr ⟨hw, rfl⟩) ha h
/-- a load of a cell that S names -/
theorem ty (i N : Nat) (l' : Array Bool) (hi : ops[i]? = some oi) (hN : oi.dst = some N) (hS : S w) {v : Value} {a' : Act} (hc : takeB md ops ds l l' i = true := by kernel_rfl)
 (hQ : ∀ c a w, Q (.panic c) (a.put oi.dst v) w → Q (.panic c) a w := by exact fun _ _ _ h => h) (hw : Region.wanted oi (yielded ops a.tmps) = true := by rfl) (hv : ∀ w', S w' → (execOp a.eval oi).run P w' = .ok (.value v) w' := by intro w'; (try simp only [and_imp]); intros; go_simp; with_reducible rfl)
 (ha : a.put (some N) v = a' := by (simp only [Act.put, List.setIfInBounds_toArray, List.set_cons_zero, List.set_cons_succ, i64_w, i32_w, Nat.reduceAdd]; rfl)) (h : wpAnyLast P md ops Q S ds fuel l' a' w) : wpAnyLast P md ops Q S ds (fuel + 1) l a w :=
 take_ (i := i) (N := some N) l' hi hN hc hQ (Or.inl ⟨hw, hv⟩) hS ha h
/-- the one that comes next in any order -/
theorem oe (i N : Nat) (l' : Array Bool) (hi : ops[i]? = some oi) (hN : oi.dst = some N) (h : ∀ K : Act → World → Prop, Shut (∀ a' w', S w' → (S w' → wpAnyLast P md ops Q S ds fuel l' a' w') → K a' w') → if Region.wanted oi (yielded ops a.tmps) = true then Oper.wp P oi a w K Q else K (a.put (some N) undef) w) (hc : readyB md ops l l' i = true := by kernel_rfl) (hd : i ∉ ds := by decide) :
 wpAnyLast P md ops Q S ds (fuel + 1) l a w := one_ (i := i) (N := some N) l' hi hN hc hd h
/-- the temporaries told anew -/
theorem ny {a' : Act} (ha : a = a' := by (simp only [Act.put, List.setIfInBounds_toArray, List.set_cons_zero, List.set_cons_succ, i64_w, i32_w, Nat.reduceAdd]; rfl)) (h : wpAnyLast P md ops Q S ds fuel l a' w) : wpAnyLast P md ops Q S ds fuel l a w := norm_ ha h
theorem na {a' : Act} (h : wpAnyLast P md ops Q S ds fuel l a' w) (ha : a = a' := by (first | (simp only [putAll, Act.put, List.setIfInBounds_toArray, List.set_cons_zero, List.set_cons_succ]; done) | (simp only [putAll, Act.put, List.setIfInBounds_toArray, List.set_cons_zero, List.set_cons_succ]; rfl))) : wpAnyLast P md ops Q S ds fuel l a w := norm_ ha h
/-- a store -/
theorem sk {w1 : World} {K : Act → World → Prop} (h : K a w1) (hw : Region.wanted oi (yielded ops a.tmps) = true := by rfl) (hN : oi.dst = none := by rfl) (hrun : (execOp a.eval oi).run P w = .ok .skip w1 := by go_simp; rfl) : if Region.wanted oi (yielded ops a.tmps) = true then Oper.wp P oi a w K Q else K (a.put none undef) w := skip_ hw hN hrun h
end
end Go.Proofs.YtldlkbjbfgieeaaGreatDoor.Mo
