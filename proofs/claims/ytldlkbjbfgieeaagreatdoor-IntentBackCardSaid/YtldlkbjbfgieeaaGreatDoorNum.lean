/- varint.Num ranges over an iterator that keeps its number in a variable of its own: the law for such a loop, and what Num gives. -/
/- thin -/
import Derived.RangeFuncNested
import Derived.RangeFuncBound
import Derived.RangeFuncCalls
import Derived.RangeFuncLeaves
import Derived.RangeFuncBox
import Derived.Shelf.Abstract
import Derived.Shelf.RegionOpen
import Derived.WalkKit
import Derived.OwnWalkIn
import Derived.TacticsInMore
import Derived.LoopNIn
import Derived.LoopIn
import Derived.Maps.AppendAt
import Derived.Laws.BitsLemmas
import Derived.Test.YtldlkbjbfgieeaaGreatDoorKw
import Derived.Test.YtldlkbjbfgieeaaGreatDoorProg
import Derived.Lib.Hide
namespace Go.Proofs.YtldlkbjbfgieeaaGreatDoor.NumLaw
open Go.RowKit Go.Shelf
open Go.Proofs.YtldlkbjbfgieeaaGreatDoorW.PrintWords
set_option linter.unusedVariables false
set_option linter.unusedSimpArgs false
/-- what a round must keep: the iterator's own variable -/
def KeepsBox (B : Nat) (t : TypeId) (W W' : World) : Prop := ∀ v, Boxed W B t v → Boxed W' B t v
/-- AN ITERATOR THAT WRITES ONE VARIABLE OF ITS OWN (block B) between two rounds: its contract. -/
def SeqCell {α : Type} (F : Fence) (n : Nat) (P : Program) (g : Nat) (lb : Array Value) (encs : α → Array Value) (B : Nat) (t : TypeId) (S : List α → Prop) (N : Nat) (w : World) : Prop :=
 ∀ (l : Nat) (J : List α → World → Prop) (W : World), KeepsBox B t w W → (∀ s A v, J s A → J s (A.setCell ⟨B, 0, none⟩ v)) →
  (∀ pre x W1, J pre W1 → pre.length < N → YieldAt F (n - 1) P l (encs x) W1 fun e W' => e = .returned (.bool true) ∧ J (pre ++ [x]) W' ∧ KeepsBox B t W1 W') →
  J [] W →
  CallsIn F n P g (#[.func (.yield l) #[] #[]] ++ lb) W fun e W' => (∃ v, e = .returned v) ∧ ∃ xs, S xs ∧ J xs W'
/-- how the body of a round may be left: it goes on -/
def onPost {α : Type} (B0 B : Nat) (t : TypeId) (I : List α → World → Prop) (xs : List α) (W : World) : Exit → Act → World → Prop
 | .normal, _, W' => KeepsFrom B0 W W' ∧ KeepsBox B t W W' ∧ I xs W'
 | _, _, _ => False
variable {F : Fence} {n : Nat} {P : Program}
theorem keepsBox_putObj {B : Nat} {t : TypeId} (W : World) (l : Nat) (o : Obj) (h : B < l) : KeepsBox B t W (W.putObj l o) := fun v hv => (World.putObj_heap_other (by omega)).trans hv
theorem rangeFunc_cell {α : Type} {g : Operand} {ps : Array Tmp} {assign body : Code} {Q : Exit → Act → World → Prop} {a : Act} {w : World}
 (hro : F.round = none) (h1 : 1 ≤ n) {gf : Nat} {lb : Array Value} (hg : a.eval g = .func (.func gf) #[] lb) (hFg : F.fn gf) (eg : ∀ args w, (callFunc gf args).run P w = .ok (.enter gf args) w)
 {encs : α → Array Value} {B : Nat} {t : TypeId} {S : List α → Prop} {N : Nat} (hseq : SeqCell F (n - 1) P gf lb encs B t S N w) (hB : B < w.heap.size)
 (hps : ∀ x, (encs x).size = ps.size)
 (I : List α → World → Prop) (hI : OwnFrom w.heap.size I) (hIc : ∀ s A v, I s A → I s (A.setCell ⟨B, 0, none⟩ v)) (h0 : I [] w) (a₁ : α → Act)
 (hassign : ∀ (l : Nat) (x : α) (W : World) (K : Act → World → Prop), K (a₁ x) W →
  assign.wpIn (F.inRound l) (n - 1 - 1) P (Exit.then K (fun _ _ _ => False)) { tmps := (ps.zip (encs x)).foldl (fun t (p, v) => t.setIfInBounds p v) a.tmps, defers := [] } W)
 (hbody : ∀ (l : Nat) (pre : List α) (x : α) (W : World), I pre W → pre.length < N → body.wpIn (F.inRound l) (n - 1 - 1) P (onPost w.heap.size B t I (pre ++ [x]) W) (a₁ x) W)
 (hdone : ∀ (D : Nat) (xs : List α) (W : World), w.heap.size ≤ D → S xs → I xs W → W.heap[D]? = some (.deferred (some [])) → Q .normal { a with defers := { target := .collected D, args := #[] } :: a.defers } W) :
 (Code.rangeFunc g ps assign body).wpIn F n P Q a w := by
 refine wpIn_rangeFunc ?_
 intro fn hfn
 rw [hro]
 obtain ⟨rec, hrec⟩ : ∃ rec : LoopState → Option Code → Loop, rec = fun st pe => { state := st, pending := pe, fn, tmps := a.tmps, params := ps, assign, body, defers := w.heap.size } := ⟨_, rfl⟩
 obtain ⟨W1, hW1⟩ : ∃ W1, (w.alloc (.deferred (some []))).alloc (.loop (rec .ready none)) = W1 := ⟨_, rfl⟩
 have hL1 : W1.heap[w.heap.size + 1]? = some (.loop (rec .ready none)) := by
  rw [← hW1]; have := World.alloc_heap_new (w.alloc (.deferred (some []))) (.loop (rec .ready none)); rwa [World.size_alloc] at this
 have hK1 : W1.heap[w.heap.size]? = some (.deferred (some [])) := by
  rw [← hW1]; exact (Below.heap_alloc _ _ _ (by simp)).trans (World.alloc_heap_new w _)
 have hI1 : I [] W1 := by rw [← hW1]; exact hI.alloc _ (hI.alloc _ h0)
 have hb1 : KeepsBox B t w W1 := by
  rw [← hW1]; exact fun v hv => (hv.alloc _).alloc _
 refine ⟨w.heap.size + 1, [{ target := .collected w.heap.size, args := #[] }], W1, { target := .fn (.func gf) lb, args := #[.func (.yield (w.heap.size + 1)) #[] #[]] }, W1, gf,
  #[.func (.yield (w.heap.size + 1)) #[] #[]] ++ lb, W1, ?_, ?_, ?_, ?_, fun _ => h1, ?_⟩
 ·rw [← hW1, hrec]; exact run_enterLoop_outer _ _ _ _ _
 ·simp only [resolve, hg]
  simp [go_sem]
 ·intro f' hf'; simp [Target.leads] at hf'; subst hf'; exact hFg
 ·simp [invoke, go_sem, eg]
 ·refine (hseq (w.heap.size + 1)
   (fun pre W => I pre W ∧ W.heap[w.heap.size + 1]? = some (.loop (rec .ready none)) ∧ W.heap[w.heap.size]? = some (.deferred (some [])))
   W1 hb1
   (fun s A v hs => ⟨hIc s A v hs.1, (Below.heap_setCell _ _ _ _ (by simp; omega)).trans hs.2.1, (Below.heap_setCell _ _ _ _ (by simp; omega)).trans hs.2.2⟩)
   ?_ ⟨hI1, hL1, hK1⟩).mono ?_
  ·rintro pre x W ⟨hi, hl, hk⟩ hlen
   have hlt : w.heap.size + 1 < W.heap.size := (Array.getElem?_eq_some_iff.1 hl).1
   have hy := run_yield (P := P) (args := encs x) hl (by rw [hrec]; exact hps x)
   rw [hrec] at hy
   refine ⟨fn, _, assign, body, hy, roundIn_of_wpIn hfn (hassign _ x W _ ⟨_, run_beginRound hl (by rw [hrec]), ?_⟩)⟩
   have hl2 : (W.putObj (w.heap.size + 1) (.loop { rec .ready none with state := .busy })).heap[w.heap.size + 1]? = some (.loop { rec .ready none with state := .busy }) := World.putObj_heap_same hlt
   have hk2 : (W.putObj (w.heap.size + 1) (.loop { rec .ready none with state := .busy })).heap[w.heap.size]? = some (.deferred (some [])) := (World.putObj_heap_other (by omega)).trans hk
   have hw2 : KeepsBox B t W (W.putObj (w.heap.size + 1) (.loop { rec .ready none with state := .busy })) := keepsBox_putObj _ _ _ (by omega)
   refine wpIn_mono (hbody _ pre x _ (hI.putObj _ hi (by omega) hl rfl) hlen) ?_
   have fin : ∀ (jump : Option Code) (W3 : World), KeepsFrom w.heap.size (W.putObj (w.heap.size + 1) (.loop { rec .ready none with state := .busy })) W3 →
    (Instr.endRound (w.heap.size + 1) jump).run P W3 = .ok (.bool jump.isNone) (W3.putObj (w.heap.size + 1) (.loop (rec (if jump.isNone then .ready else .done) jump))) ∧
    W3.heap[w.heap.size + 1]? = some (.loop { rec .ready none with state := .busy }) ∧
    (W3.putObj (w.heap.size + 1) (.loop (rec (if jump.isNone then .ready else .done) jump))).heap[w.heap.size + 1]? = some (.loop (rec (if jump.isNone then .ready else .done) jump)) ∧
    (W3.putObj (w.heap.size + 1) (.loop (rec (if jump.isNone then .ready else .done) jump))).heap[w.heap.size]? = some (.deferred (some [])) := fun jump W3 hk3 => by
    have hl3 := hk3.same _ _ (by omega) hl2 rfl
    have := run_endRound (P := P) jump hl3
    rw [hrec] at this ⊢
    exact ⟨this, by rw [hrec] at hl3; exact hl3, World.putObj_heap_same (Array.getElem?_eq_some_iff.1 hl3).1, (World.putObj_heap_other (by omega)).trans (hk3.same _ _ (Nat.le_refl _) hk2 rfl)⟩
   rintro e a3 W3 hp
   cases e with
   | normal =>
    obtain ⟨hk3, hkp3, hi3⟩ := hp
    obtain ⟨hr, hl3, hl4, hk4⟩ := fin none W3 hk3
    exact ⟨_, _, hr, rfl, ⟨hI.putObj _ hi3 (by omega) hl3 rfl, hl4, hk4⟩, fun v hv => keepsBox_putObj _ _ _ (by omega) v (hkp3 v (hw2 v hv))⟩
   | ret => exact hp.elim
   | exit id => exact hp.elim
   | goto t => exact hp.elim
   | panic ch => exact hp.elim
   | outgrown => exact hp.elim
  ·rintro e W2 ⟨⟨v, rfl⟩, xs, hS, hi, hl, hk⟩
   exact ⟨none, _, by have := run_endLoop (P := P) hl (by rw [hrec]; simp); rw [hrec] at this; exact this, hdone _ xs _ (Nat.le_refl _) hS (hI.putObj _ hi (by omega) hl rfl) ((World.putObj_heap_other (by omega)).trans hk)⟩
end Go.Proofs.YtldlkbjbfgieeaaGreatDoor.NumLaw
namespace Go.Proofs.YtldlkbjbfgieeaaGreatDoor.Num
open Go.RowKit Go.Shelf
open Go.Proofs.YtldlkbjbfgieeaaGreatDoorW.PrintWords NumLaw
attribute [local go_sem] Oper.semAt_some
set_option linter.unusedVariables false
set_option linter.unusedSimpArgs false
/-- a number's bytes -/
def digs : Nat → Int → List Int
 | 0, u => [u % 256]
 | k + 1, u => if 128 ≤ u then (u % 128 + 128) :: digs k (u / 128) else [u % 256]
theorem digs_len (k : Nat) : ∀ u, (digs k u).length ≤ k + 1 := by
 induction k with
 | zero => intro u; simp [digs]
 | succ k ih => intro u; simp only [digs]; split <;> simp; have := ih (u / 128); omega
theorem or128 (a : Int) (h0 : 0 ≤ a) (h1 : a < 256) : Go.bits .or .u8 a 128 = a % 128 + 128 := by
 have h : ∀ n : Nat, n < 256 → Go.bits .or .u8 (n : Int) 128 = (n : Int) % 128 + 128 := by decide +kernel
 obtain ⟨n, rfl⟩ := Int.eq_ofNat_of_zero_le h0
 exact h n (by omega)
/-- the number that the iterator's variable holds -/
def cellNat (B : Nat) (W : World) : Nat := match W.cell? ⟨B, 0, none⟩ with
 | some (.int _ v) => v.toNat
 | _ => 0
theorem cellNat_of {B : Nat} {W : World} {v : Int} {t : TypeId} (h : Boxed W B t (.int .u64 v)) : cellNat B W = v.toNat := by
 unfold cellNat; rw [h.cell]
/-- the body of digits: every digit is handed out, in order -/
theorem digits_in (F : Fence) (n : Nat) (hF : F.fn 106) (hro : F.round = none) (hn : 1 ≤ n) (l B : Nat) (u : Int) (hu0 : 0 ≤ u) (hu1 : u < 18446744073709551616)
 (J : List Int → World → Prop) (hJc : ∀ s A v, J s A → J s (A.setCell ⟨B, 0, none⟩ v))
 (hY : ∀ pre x W1, J pre W1 → pre.length < 10 → YieldAt F (n - 1) Tryz.prog l #[.int .u8 x] W1 fun e W' => e = .returned (.bool true) ∧ J (pre ++ [x]) W' ∧ KeepsBox B 118 W1 W')
 (W : World) (hB : Boxed W B 118 (.int .u64 u)) (h0 : J [] W) :
 CallsIn F n Tryz.prog 106 #[.func (.yield l) #[] #[], .pointer (some ⟨B, 0, none⟩)] W fun e W' => (∃ v, e = .returned v) ∧ ∃ xs, xs = digs 9 u ∧ J xs W' := by
 refine callsIn_of_wp Tryz.func106 rfl hF ?_ hro
 simp only [Tryz.ntmps106, List.size_toArray, List.length_cons, List.length_nil, Nat.reduceAdd, Nat.reduceSub, Array.replicate_succ, Array.replicate_zero, List.push_toArray, List.append_toArray, List.nil_append, List.cons_append]
 gi_wp2
 gi_loopw [3] (fun p wr => ∃ (k : Nat) (pre : List Int) (v : Int), pre.length + k = 9 ∧ 0 ≤ v ∧ v < ((2 ^ (7 * k + 1) : Nat) : Int) ∧ Boxed wr B 118 (.int .u64 v) ∧ digs 9 u = pre ++ digs k v ∧ J pre wr) (fun p wr => cellNat B wr)
 case atStart =>
  exact ⟨9, [], u, rfl, hu0, by simpa using hu1, hB, by simp, h0⟩
 case round =>
  obtain ⟨k, pre, v, hk, hv0, hv1, hb, hd, hj⟩ := hrel
  have hc := hb.cell
  have hf := hb.frozen
  have hp : 2 ^ (7 * k + 1) ≤ 2 ^ 64 := Nat.pow_le_pow_right (by omega) (by omega)
  have hv2 : v < 18446744073709551616 := by
   rw [show (2 : Nat) ^ 64 = 18446744073709551616 by decide] at hp; omega
  by_cases h128 : 128 ≤ v
  ·obtain ⟨k, rfl⟩ : ∃ m, k = m + 1 := by
    cases k with
    | zero => simp at hv1; omega
    | succ m => exact ⟨m, rfl⟩
   have hge : decide (v ≥ 128) = true := by simp; omega
   have h128' : (128 : Int) ≤ v := h128
   obtain ⟨fn, tmps, assign, body, hy, hR⟩ := hY pre (Go.bits .or .u8 (v % 256) 128) wr hj (by omega)
   have hv3 : v / 128 < ((2 ^ (7 * k + 1) : Nat) : Int) := by
    rw [show 7 * (k + 1) + 1 = (7 * k + 1) + 7 by omega, Nat.pow_add] at hv1
    omega
   have HV := Lib.hid hv3
   have HD := Lib.hid hd
   clear hp hv1 hv3 hd
   gi_wp2
   refine hR.mono ?_
   rintro e W3 ⟨rfl, hJ3, hk3⟩
   have hb3 := hk3 _ hb
   have hc3 := hb3.cell
   have hf3 := hb3.frozen
   gi_wp2
   go_roundw
   case rel =>
    refine ⟨k, pre ++ [Go.bits .or .u8 (v % 256) 128], v / 128, by simp; omega, by omega, HV.out, hb3.set _, ?_, hJc _ _ _ hJ3⟩
    rw [HD.out, digs, if_pos h128, or128 _ (by omega) (by omega), show v % 256 % 128 = v % 128 by omega]; simp
   case measure => rw [cellNat_of (hb3.set _), cellNat_of hb]; omega
  ·have hge : decide (v ≥ 128) = false := by simp; omega
   have h128' : v < 128 := by omega
   obtain ⟨fn, tmps, assign, body, hy, hR⟩ := hY pre v wr hj (by omega)
   have hdv : digs k v = [v] := by
    cases k with
    | zero => rw [digs, show v % 256 = v by omega]
    | succ k => rw [digs, if_neg h128, show v % 256 = v by omega]
   have HD := Lib.hid hd
   have HDV := Lib.hid hdv
   clear hp hv1 hd hdv
   gi_wp2
   refine hR.mono ?_
   rintro e W3 ⟨rfl, hJ3, hk3⟩
   gi_wp2
   go_end0
   exact ⟨⟨_, rfl⟩, _, by rw [HD.out, HDV.out], hJ3⟩
theorem digits_seq (F : Fence) (n : Nat) (hF : F.fn 106) (hro : F.round = none) (hn : 1 ≤ n) (B : Nat) (u : Int) (hu0 : 0 ≤ u) (hu1 : u < 18446744073709551616) (w : World) (hB : Boxed w B 118 (.int .u64 u)) :
 SeqCell F n Tryz.prog 106 #[.pointer (some ⟨B, 0, none⟩)] (fun x : Int => #[.int .u8 x]) B 118 (fun xs => xs = digs 9 u) 10 w := by
 intro l J W hW hJc hY h0
 exact digits_in F n hF hro hn l B u hu0 hu1 J hJc hY W (hW _ hB) h0
/-- digits: the iterator, its number in a block of its own -/
theorem digits_call (F : Fence) (n : Nat) (hF : F.fn 86) (hro : F.round = none) (u : Int) (w : World) :
 CallsIn F n Tryz.prog 86 #[.int .u64 u] w fun e W' => e = .returned (.func (.func 106) #[] #[.pointer (some ⟨w.heap.size, 0, none⟩)]) ∧ W' = w.alloc (.cells #[.int .u64 u] 118) := by
 refine callsIn_of_wp Tryz.func86 rfl hF ?_ hro
 simp only [Tryz.ntmps86, List.size_toArray, List.length_cons, List.length_nil, Nat.reduceAdd, Nat.reduceSub, Array.replicate_succ, Array.replicate_zero, List.push_toArray, List.append_toArray, List.nil_append, List.cons_append]
 gi_wp2
 go_ret
 exact ⟨rfl, rfl⟩
theorem info_u8 : (Tryz.prog.info? 5).map (fun i => (i.zero, i.size, i.bytes)) = some (some (.int .u8 0), 1, 1) := by kernel_rfl
/-- the zigzag value, as the code reckons it -/
def zz (x : Int) : Int := Go.bits .xor .u64 (IntKind.u64.wrap (IntKind.u64.wrap x * 2)) (IntKind.u64.wrap (x / 9223372036854775808))
theorem num_in (F : Fence) (n : Nat) (h1 : F.fn 45) (h2 : F.fn 86) (h3 : F.fn 106) (hro : F.round = none) (hn : 3 ≤ n) (x : Int) (w : World)
 (hx0 : -9223372036854775808 ≤ x) (hx1 : x ≤ 9223372036854775807) (hz0 : 0 ≤ zz x) (hz1 : zz x < 18446744073709551616) :
 CallsIn F n Tryz.prog 45 #[.int .i64 x] w fun e W' => e = .returned (.string (strOfNums (digs 9 (zz x)))) ∧ Below w.heap.size w W' := by
 have hn1 : 1 ≤ n := by omega
 obtain ⟨i0, hi, hz0', hz1', hz2'⟩ := info_parts info_u8
 refine callsIn_of_wp_marks Tryz.func45 rfl h1 ?_ hro
 simp only [Tryz.ntmps45, List.size_toArray, List.length_cons, List.length_nil, Nat.reduceAdd, Nat.reduceSub, Array.replicate_succ, Array.replicate_zero, List.push_toArray, List.append_toArray, List.nil_append, List.cons_append]
 gi_wp2_with fail
 obtain ⟨z, hz⟩ : ∃ z, zz x = z := ⟨_, rfl⟩
 have hz' : Go.bits .xor .u64 (IntKind.u64.wrap (IntKind.u64.wrap x * 2)) (IntKind.u64.wrap (x / 9223372036854775808)) = z := hz
 rw [hz']
 have hz0 : 0 ≤ z := by rw [← hz]; exact hz0
 have hz1 : z < 18446744073709551616 := by rw [← hz]; exact hz1
 generalize hA : IntKind.u64.wrap (IntKind.u64.wrap x * 2) = zA at *
 generalize hB' : IntKind.u64.wrap (x / 9223372036854775808) = zB at *
 generalize hC : IntKind.u64.wrap x = zC at *
 have HZ := Lib.hid hz
 clear hA hB' hC hz hz' hx0 hx1
 generalize x / 9223372036854775808 = zD
 refine (digits_call F (n - 1) h2 hro z _).mono ?_
 rintro e w' ⟨rfl, rfl⟩
 gi_wp2_with fail
 have bO := Boxed.new w 92 (.slice none 0 0)
 have bN := Boxed.new (w.alloc (.cells #[.slice none 0 0] 92)) 118 (.int .u64 z)
 rw [World.size_alloc] at bN
 have hB0 : Below w.heap.size w ((w.alloc (.cells #[.slice none 0 0] 92)).alloc (.cells #[.int .u64 z] 118)) := ((Below.refl _ w).alloc (Nat.le_refl _) _).alloc (by simp) _
 refine rangeFunc_cell hro hn1 (gf := 106) (lb := #[.pointer (some ⟨w.heap.size + 1, 0, none⟩)]) rfl h3 (enters_of Tryz.func106 (by kernel_rfl) rfl)
  (digits_seq F (n - 1) h3 hro (by omega) (w.heap.size + 1) z hz0 hz1 _ bN) (by simp) (fun _ => rfl)
  (fun pre W => (∃ v, Boxed W w.heap.size 92 v ∧ W.ownsRow (w.heap.size + 2) 5 1 v pre.length (pre.map (Value.int .u8)) ∧ True) ∧ Below w.heap.size ((w.alloc (.cells #[.slice none 0 0] 92)).alloc (.cells #[.int .u64 z] 118)) W)
  (OwnFrom.and (Own.from (holdsRow_own (w.heap.size + 2) w.heap.size 92 5 1 (fun pre : List Int => pre.length) (fun pre => pre.map (Value.int .u8)) (fun _ _ => True)) _) (ownFrom_below (by simp; omega) (by simp; omega)))
  ?cell ⟨⟨_, bO.alloc _, World.ownsRow_nil _ _ _ _, trivial⟩, Below.refl _ _⟩
  (fun y => { tmps := #[.int .i64 x, undef, .string ⟨#[]⟩, .pointer (some ⟨w.heap.size, 0, none⟩), .int .u8 y, .int .i64 x, .int .u64 zC, .int .u64 zA, .int .i64 x, .int .i64 zD, .int .u64 zB, .int .u64 z,
   .func (.func 106) #[] #[.pointer (some ⟨w.heap.size + 1, 0, none⟩)], .int .u8 y, undef, undef, undef, undef, undef, undef], defers := [] }) ?assign ?body ?done
 case cell =>
  rintro s A v ⟨⟨v0, hv, hrow, _⟩, hB⟩
  refine ⟨⟨v0, hv.kept (grownBy_setCell' _ _ _) (by simp), hrow.kept (grownBy_setCell' _ _ _) (.inr (fun e => ?_)), trivial⟩, hB.setCell (p := ⟨w.heap.size + 1, 0, none⟩) (by simp) _⟩
  have := own_base hrow (w.heap.size + 1) e
  omega
 case assign =>
  intro l y W K hK
  gi_wp2
  exact hK
 case body =>
  rintro l pre y W ⟨⟨v, hv, hrow, _⟩, hB⟩ hlt
  have hsz := hB.size
  have hsz' : w.heap.size + 2 ≤ W.heap.size := by simp at hsz; omega
  clear hsz
  have hc := hv.cell
  gi_wp2_with (gi_at_builtin; refine wpListIn_append_own _ rfl _ _ 92 rfl (w.heap.size + 2) 5 i0 (.int .u8 0) 1 1 Tryz.underlying92 hi hz0' hz1' hz2' rfl (by decide) _ _ _ rfl (hrow.alloc _) ⟨W.heap.size, 0, none⟩ 1 1 [.int .u8 y] rfl rfl (cell_one_new _ _ _) (by simp [Value.oneCell']) (by simp only [maxLen]; omega) (by omega) (by simp; omega) ?_; intro v' w1 hown' hgrow _; obtain ⟨g', cap', rfl⟩ := ownsRow_succ hown'; obtain ⟨hv1, hv2, _, hk2, hb2⟩ := hv.appended (by decide) (own_weaken hrow (show w.heap.size ≤ w.heap.size + 2 by omega)) (by omega) (Nat.le_refl _) (own_weaken hown' (show w.heap.size ≤ w.heap.size + 2 by omega)) hgrow; have hc1 := hv1.cell; have hf1 := hv1.frozen)
  have hgrow' : (W.alloc (.cells #[.int .u8 y] 5)).grownBy w1 v.ownBlock := hgrow
  refine ⟨hk2.from _, fun v0 h0 => ((h0.alloc _).kept hgrow' (fun e => ?_)).kept (grownBy_setCell' _ _ _) (by simp), ⟨_, hv2, ?_, trivial⟩, hB.trans hb2⟩
  ·have := own_base hrow (w.heap.size + 1) e.symm
   omega
  ·have := hown'.kept (grownBy_setCell' w1 w.heap.size (.slice (some ⟨g', 0, none⟩) (pre.length + 1) cap')) (.inr (fun e => by have := own_base hown' w.heap.size e; omega))
   simpa using this
 case done =>
  rintro D ys W hD rfl ⟨⟨v, hv, hrow, _⟩, hB⟩ hK
  have hc := hv.cell
  have hcv := own_string (P := Tryz.prog) (src := 92) (dst := 9) (e := 5) Tryz.underlying92 Tryz.underlying5 Tryz.underlying9 (show W.ownsRow _ _ 1 v _ (nums .u8 (digs 9 z)) from hrow)
  obtain ⟨s, hs⟩ : ∃ s, strOfNums (digs 9 z) = s := ⟨_, rfl⟩
  rw [hs] at hcv
  have HS := Lib.hid hs
  clear hs
  gi_wp2
  refine ⟨by simp, .inl ⟨_, _, rfl, run_takeDeferred hK, ?_⟩⟩
  exact ⟨_, results_tmp rfl _ _ _, by rw [HZ.out, HS.out]; rfl, (hB0.trans hB).trans (belowK_b (w := w) (Nat.le_refl _) W D _ _ (by simp at hD; omega) hK rfl rfl)⟩
/-! ### the zigzag value -/
theorem wrap_u64 (n : Int) : IntKind.u64.wrap n = n % 18446744073709551616 := by simp [IntKind.wrap, IntKind.bits, IntKind.signed]
theorem xor64 (a b : Nat) (ha : a < 2 ^ 64) (hb : b < 2 ^ 64) : Go.bits .xor .u64 (a : Int) (b : Int) = ((a ^^^ b : Nat) : Int) := by
 have ha' : a % 2 ^ IntKind.u64.bits = a := Nat.mod_eq_of_lt ha
 have hb' : b % 2 ^ IntKind.u64.bits = b := Nat.mod_eq_of_lt hb
 simp only [Go.bits, BitVec.ofInt_natCast, BitVec.toNat_xor, BitVec.toNat_ofNat, ha', hb']
 have : a ^^^ b < 2 ^ 64 := Nat.xor_lt_two_pow ha hb
 rw [wrap_u64]
 omega
theorem xor_ones (a : Nat) (ha : a < 2 ^ 64) : a ^^^ (2 ^ 64 - 1) = 2 ^ 64 - 1 - a := by
 have h := BitVec.toNat_not (x := BitVec.ofNat 64 a)
 rw [← BitVec.xor_allOnes, BitVec.toNat_xor, BitVec.toNat_allOnes, BitVec.toNat_ofNat, Nat.mod_eq_of_lt ha] at h
 exact h
/-- the zigzag value of an int -/
def zig (x : Int) : Int := if 0 ≤ x then 2 * x else -2 * x - 1
theorem zz_eq (x : Int) (h0 : -9223372036854775808 ≤ x) (h1 : x ≤ 9223372036854775807) : zz x = zig x := by
 unfold zz zig
 simp only [wrap_u64]
 by_cases h : 0 ≤ x
 ·rw [if_pos h]
  obtain ⟨n, rfl⟩ := Int.eq_ofNat_of_zero_le h
  rw [show ((n : Int) % 18446744073709551616 * 2 % 18446744073709551616) = ((2 * n : Nat) : Int) by omega, show ((n : Int) / 9223372036854775808 % 18446744073709551616) = ((0 : Nat) : Int) by omega,
   xor64 _ _ (by omega) (by omega), Nat.xor_zero]
  omega
 ·rw [if_neg h]
  obtain ⟨n, hn⟩ : ∃ n : Nat, x * 2 + 18446744073709551616 = n := ⟨(x * 2 + 18446744073709551616).toNat, by omega⟩
  rw [show (x % 18446744073709551616 * 2 % 18446744073709551616) = (n : Int) by omega, show (x / 9223372036854775808 % 18446744073709551616) = ((2 ^ 64 - 1 : Nat) : Int) by omega,
   xor64 _ _ (by omega) (by omega), xor_ones n (by omega)]
  omega
theorem zig_bd (x : Int) (h0 : -9223372036854775808 ≤ x) (h1 : x ≤ 9223372036854775807) : 0 ≤ zig x ∧ zig x < 18446744073709551616 := by unfold zig; split <;> omega
/-- a number as bytes -/
def num (x : Int) : ByteArray := strOfNums (digs 9 (zig x))
theorem num_calls (x : Int) (w : World) (h0 : -9223372036854775808 ≤ x) (h1 : x ≤ 9223372036854775807) :
 Calls Tryz.prog 45 #[.int .i64 x] w fun e w' => e = .returned (.string (num x)) ∧ Below w.heap.size w w' := by
 have hz := zz_eq x h0 h1
 have hb := zig_bd x h0 h1
 refine (callsIn_wide (n := 3)).1 ?_
 have := num_in Fence.wide 3 trivial trivial trivial rfl (by omega) x w h0 h1 (by rw [hz]; exact hb.1) (by rw [hz]; exact hb.2)
 rw [hz] at this
 exact this
end Go.Proofs.YtldlkbjbfgieeaaGreatDoor.Num
namespace Go.Proofs.YtldlkbjbfgieeaaGreatDoor.Giv
open Go.RowKit Go.Proofs.YtldlkbjbfgieeaaGreatDoor.Num
def varint_Num.f (a0 : Int) : Option (ByteArray) := if -9223372036854775808 ≤ a0 ∧ a0 ≤ 9223372036854775807 then some (num a0) else none
theorem varint_Num.calls (a0 : Int) (r : ByteArray) (w : World) (h : varint_Num.f a0 = some r) :
 Calls Tryz.prog 45 #[.int .i64 a0] w fun e w' => e = .returned (.string r) ∧ Below w.heap.size w w' := by
 unfold varint_Num.f at h
 split at h
 ·rename_i hb
  obtain rfl := Option.some.inj h
  exact num_calls a0 w hb.1 hb.2
 ·cases h
end Go.Proofs.YtldlkbjbfgieeaaGreatDoor.Giv
