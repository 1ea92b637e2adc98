/- strings.Builder's copyCheck and WriteString at this program: bytes are written behind what is there. (After the shelf's own proofs; its laying does not take this translation's copyCheck.) -/
import Derived.Test.YtldlkbjbfgieeaaGreatDoorKh
import Derived.Test.YtldlkbjbfgieeaaGreatDoorQx0
import Derived.Shelf.RegionOpenPlain
import Derived.Lib.Builder
import Derived.Lib.AppendStr
import Derived.Lib.UnsafeStr
import Derived.WalkKit
import Derived.Laws.Externs
import Derived.Lib.Hide
import Derived.Test.YtldlkbjbfgieeaaGreatDoorNum
namespace Go.Proofs.YtldlkbjbfgieeaaGreatDoor.Bw
open Go.RowKit Go.Shelf Go.Proofs.YtldlkbjbfgieeaaGreatDoorW.PrintWords
set_option linter.unusedVariables false
set_option linter.unusedSimpArgs false
theorem size48 : (Tryz.prog.info? 94).map (·.size) = some 2 := by kernel_rfl
theorem lies48 : liesAt Tryz.prog Tryz.prog.depth 94 (2 / Tryz.prog.cellsOf 94) 0 94 1 = true := by kernel_rfl
theorem infoByte : (Tryz.prog.info? 5).map (fun i => (i.zero, i.size, i.bytes)) = some (some (.int .u8 0), 1, 1) := by kernel_rfl
set_option maxHeartbeats 1000000 in
set_option maxRecDepth 100000 in
theorem check_used (b : Nat) (w : World) (h0 : w.cell? ⟨b, 0, none⟩ = some (.pointer (some ⟨b, 0, none⟩))) :
 Calls Tryz.prog 90 #[.pointer (some ⟨b, 0, none⟩)] w fun e w' => e = .returned (.tuple #[]) ∧ w' = w := by
 obtain ⟨j, hj, _⟩ := Option.map_eq_some_iff.1 size48
 go_enter Tryz.func90, Tryz.ntmps90
 go_wp2
 rw [Lib.run_neq_ptr_same w _ Tryz.underlying91 hj]
 go_wp2
 go_end0
 exact ⟨rfl, rfl⟩
set_option maxHeartbeats 1000000 in
set_option maxRecDepth 100000 in
theorem check_fresh (b : Nat) (w : World) (h0 : w.cell? ⟨b, 0, none⟩ = some (.pointer none)) (hsh : w.shape? b = some (94, 2)) (hfz : w.frozen? ⟨b, 0, none⟩ = false) :
 Calls Tryz.prog 90 #[.pointer (some ⟨b, 0, none⟩)] w fun e w' => e = .returned (.tuple #[]) ∧ w' = w.setCell ⟨b, 0, none⟩ (.pointer (some ⟨b, 0, none⟩)) := by
 obtain ⟨j, hj, hjs⟩ := Option.map_eq_some_iff.1 size48
 go_enter Tryz.func90, Tryz.ntmps90
 go_wp2
 rw [Lib.run_to_unsafe w ⟨b, 0, none⟩ Tryz.underlying91 Tryz.underlying136 hj (by rw [hjs]; decide) hsh (Nat.zero_lt_succ 1)]
 simp only [Result.andThen]
 rw [Oper.upon_value]
 go_wp2
 rw [run_callFunc_extern Tryz.func107 (by kernel_rfl) (by kernel_rfl) (by kernel_rfl) (e := Extern.AbiNoEscape.same) (by kernel_rfl)]
 rw [Lib.run_noEscape]
 simp only [Result.andThen]
 rw [Oper.upon_value]
 go_wp2
 rw [Lib.run_from_unsafe w ⟨b, 0, none⟩ Tryz.underlying136 Tryz.underlying91 hj hsh lies48]
 simp only [Result.andThen]
 rw [Oper.upon_value]
 go_wp2
 go_end0
 exact ⟨rfl, rfl⟩
theorem check_any (B b : Nat) (bs : List Value) (w : World) (h : Lib.IsBuilder 94 5 B b bs w) :
 Calls Tryz.prog 90 #[.pointer (some ⟨b, 0, none⟩)] w fun e w' => e = .returned (.tuple #[]) ∧ (Lib.BuilderAt 94 5 B b (.pointer (some ⟨b, 0, none⟩)) bs w' ∧ Below B w w') ∧ KeepBut w w' b none := by
 rcases h with h | h
 ·refine (check_fresh b w h.cell0 h.shape h.frozen0).mono ?_
  rintro e w' ⟨rfl, rfl⟩
  exact ⟨rfl, ⟨h.used _, (Below.refl B w).setCell (p := ⟨b, 0, none⟩) h.1 _⟩, by simp [World.setCell], fun k hk hne _ => Below.heap_setCell _ _ _ k hne⟩
 ·refine (check_used b w h.cell0).mono ?_
  rintro e w' ⟨rfl, rfl⟩
  exact ⟨rfl, ⟨h, Below.refl B _⟩, Nat.le_refl _, fun _ _ _ _ => rfl⟩
/-- what a call that writes a builder at b leaves alone: every block of another type than bytes, but b -/
def KeepT (w w' : World) (b : Nat) : Prop := w.heap.size ≤ w'.heap.size ∧ ∀ k cs t, w.heap[k]? = some (.cells cs t (0, 0)) → t ≠ 5 → k ≠ b → w'.heap[k]? = some (.cells cs t (0, 0))
theorem KeepT.refl (w : World) (b : Nat) : KeepT w w b := ⟨Nat.le_refl _, fun _ _ _ h _ _ => h⟩
theorem KeepT.trans {w w1 w2 : World} {b : Nat} (h : KeepT w w1 b) (k : KeepT w1 w2 b) : KeepT w w2 b := ⟨Nat.le_trans h.1 k.1, fun i cs t hi ht hb => k.2 i cs t (h.2 i cs t hi ht hb) ht hb⟩
theorem KeepT.of_below {w w1 : World} {b : Nat} (h : Below w.heap.size w w1) : KeepT w w1 b := ⟨h.size, fun k cs t hk _ _ => (h.block k (blk_lt hk)).trans hk⟩
theorem KeepT.of_but {w w1 : World} {b : Nat} (h : KeepBut w w1 b none) : KeepT w w1 b := ⟨h.1, fun k cs t hk _ hb => (h.2 k (blk_lt hk) hb (by simp)).trans hk⟩
theorem owns_typed {w : World} {B : Nat} {e : TypeId} {n : Nat} {v : Value} {xs : List Value} (h : w.ownsRow B e 1 v n xs) (k : Nat) (hk : v.ownBlock = some k) : ∃ cells, w.heap[k]? = some (.cells cells e (0, 0)) := own_typed h k hk
set_option maxHeartbeats 2000000 in
set_option maxRecDepth 100000 in
theorem write_any (B b : Nat) (bs : List Value) (s : ByteArray) (w : World) (h : Lib.IsBuilder 94 5 B b bs w) (hlen : bs.length + s.size ≤ 140737488355328) (hBw : B ≤ w.heap.size) :
 Calls Tryz.prog 64 #[.pointer (some ⟨b, 0, none⟩), .string s] w fun e w' => e = .returned (.tuple #[.int .i64 s.size, .nilIface]) ∧ Lib.BuilderAt 94 5 B b (.pointer (some ⟨b, 0, none⟩)) (bs ++ Lib.strCells s) w' ∧ Below B w w' ∧ KeepT w w' b := by
 obtain ⟨i0, hi, hz0, hz1, hz2⟩ := info_parts infoByte
 go_enter Tryz.func64, Tryz.ntmps64
 go_wp2_with fail
 refine (check_any B b bs _ h).mono ?_
 rintro e w1 ⟨rfl, ⟨h1, hb1⟩, hk1⟩
 obtain ⟨hB, v, hbk, hown, hne⟩ := h1
 have c0 : w1.cell? ⟨b, 0, none⟩ = some (.pointer (some ⟨b, 0, none⟩)) := by rw [Lib.cell_of_heap hbk]; rfl
 have c1 : w1.cell? ⟨b, 1, none⟩ = some v := by rw [Lib.cell_of_heap hbk]; rfl
 go_wp2_with (at_builtin; refine Lib.wpList_append_own_string _ rfl _ _ 92 9 rfl B 5 i0 Tryz.underlying92 Tryz.underlying9 hi hz0 hz1 hz2 _ _ _ rfl hown s rfl ?c3 ?c4 ?c5 ?_)
 case c3 => unfold maxLen; omega
 case c4 => omega
 case c5 => have := hb1.size; omega
 intro v' w2 hown' hgrow _
 have hlt : b < w1.heap.size := blk_lt hbk
 have hb2 : w2.heap[b]? = some (.cells #[.pointer (some ⟨b, 0, none⟩), v] 94 (0, 0)) := by
  rw [hgrow.block b hlt (fun e => hne e.symm)]
  exact hbk
 have d0 : w2.cell? ⟨b, 0, none⟩ = some (.pointer (some ⟨b, 0, none⟩)) := by rw [Lib.cell_of_heap hb2]; rfl
 have d1 : w2.cell? ⟨b, 1, none⟩ = some v := by rw [Lib.cell_of_heap hb2]; rfl
 have f1 : w2.frozen? ⟨b, 1, none⟩ = false := Lib.frozen_of_heap hb2 1
 obtain ⟨ao, n', cap, rfl⟩ : ∃ ao n' cap, v' = .slice ao n' cap := by
  rcases hown'.2 with ⟨hv, _⟩ | ⟨g, cap, cur, hv, _⟩
  ·exact ⟨_, _, _, hv⟩
  ·exact ⟨_, _, _, hv⟩
 have hk2 : KeepT w1 w2 b := ⟨hgrow.size, fun k cs t hk ht _ => (hgrow.block k (blk_lt hk) (fun e => by
  obtain ⟨cells, hc⟩ := owns_typed hown k e.symm
  rw [hk] at hc; injection hc with hc; injection hc with _ hc; exact ht hc)).trans hk⟩
 go_wp2
 go_ret2
 refine ⟨rfl, ?_, ?_, ?_⟩
 ·exact Lib.BuilderAt.put (T := 94) (e := 5) hB hb2 (bs' := bs ++ Lib.strCells s) (by simpa [Lib.strCells_length] using hown') (by decide)
 ·exact (hb1.grown hgrow (by have := hb1.size; omega) (fun k hk => (hown.lt k hk).1)).setCell (p := ⟨b, 1, none⟩) hB _
 ·exact ((KeepT.of_but hk1).trans hk2).trans (KeepT.of_but ⟨by simp [World.setCell], fun k hk hne _ => Below.heap_setCell _ _ _ k hne⟩)
end Go.Proofs.YtldlkbjbfgieeaaGreatDoor.Bw
namespace Go.Proofs.YtldlkbjbfgieeaaGreatDoor.Pt
open Go.RowKit Go.Shelf Go.Proofs.YtldlkbjbfgieeaaGreatDoorW.PrintWords Go.Proofs.YtldlkbjbfgieeaaGreatDoor.Num Bw
set_option linter.unusedVariables false
set_option linter.unusedSimpArgs false
def nums : List Int → ByteArray
 | [] => ByteArray.empty
 | x :: xs => num x ++ nums xs
theorem nums_append : ∀ xs ys : List Int, nums (xs ++ ys) = nums xs ++ nums ys
 | [], ys => by simp [nums]
 | x :: xs, ys => by simp [nums, nums_append xs ys, ByteArray.append_assoc]
theorem cells_app (s t : ByteArray) : Lib.strCells s ++ Lib.strCells t = Lib.strCells (s ++ t) := by
 unfold Lib.strCells
 rw [← List.map_append]; simp
/-- a builder, and what was left alone since w0 -/
def Wr (B b : Nat) (w0 w : World) (s : ByteArray) : Prop := Lib.IsBuilder 94 5 B b (Lib.strCells s) w ∧ Below B w0 w ∧ KeepT w0 w b
theorem Wr.refl {B b : Nat} {w : World} {s : ByteArray} (h : Lib.IsBuilder 94 5 B b (Lib.strCells s) w) : Wr B b w w s := ⟨h, Below.refl _ _, KeepT.refl _ _⟩
theorem below_builder {B b : Nat} {w w1 : World} {bs : List Value} (h : Lib.IsBuilder 94 5 B b bs w) (hb : Below w.heap.size w w1) : Lib.IsBuilder 94 5 B b bs w1 := by
 have go : ∀ p, Lib.BuilderAt 94 5 B b p bs w → Lib.BuilderAt 94 5 B b p bs w1 := fun p hp => by
  obtain ⟨hB, v, hbk, hown, hne⟩ := hp
  exact ⟨hB, v, (hb.block b (blk_lt hbk)).trans hbk, own_move hown (fun k hk => hb.block k (own_lt hown k hk)), hne⟩
 rcases h with h | h
 ·exact .inl (go _ h)
 ·exact .inr (go _ h)
theorem write_s (B b : Nat) (s t : ByteArray) (w0 w : World) (h : Wr B b w0 w s) (hlen : s.size + t.size ≤ 140737488355328) (hBw : B ≤ w.heap.size) :
 Calls Tryz.prog 64 #[.pointer (some ⟨b, 0, none⟩), .string t] w fun e w' => e = .returned (.tuple #[.int .i64 t.size, .nilIface]) ∧ Wr B b w0 w' (s ++ t) ∧ KeepT w w' b := by
 refine (write_any B b (Lib.strCells s) t w h.1 (by rw [Lib.strCells_length]; exact hlen) hBw).mono ?_
 rintro e w' ⟨rfl, h1, h2, h3⟩
 exact ⟨rfl, ⟨Or.inr (by rw [← cells_app]; exact h1), h.2.1.trans h2, h.2.2.trans h3⟩, h3⟩
theorem Wr.below {B b : Nat} {w0 w w1 : World} {s : ByteArray} (h : Wr B b w0 w s) (hB : B ≤ w.heap.size) (hb : Below w.heap.size w w1) : Wr B b w0 w1 s :=
 ⟨below_builder h.1 hb, h.2.1.trans (hb.mono hB), h.2.2.trans (KeepT.of_below hb)⟩
theorem Wr.size {B b : Nat} {w0 w : World} {s : ByteArray} (h : Wr B b w0 w s) : w0.heap.size ≤ w.heap.size := h.2.2.1
theorem Wr.lt {B b : Nat} {w0 w : World} {s : ByteArray} (h : Wr B b w0 w s) : B ≤ b := by rcases h.1 with h | h <;> exact h.1
theorem Wr.ne {B b : Nat} {w0 : World} {s : ByteArray} (h : Wr B b w0 w0 s) {a t : Nat} {cs : Array Value} (ha : w0.heap[a]? = some (.cells cs t (0, 0))) (ht : t ≠ 94) : a ≠ b := by
 rintro rfl
 rcases h.1 with ⟨_, v, hb, _⟩ | ⟨_, v, hb, _⟩ <;> (rw [ha] at hb; injection hb with hb; injection hb with _ hb; exact ht hb)
theorem Wr.trans {B b : Nat} {w0 w w1 : World} {s t : ByteArray} (h : Wr B b w0 w s) (k : Wr B b w w1 t) : Wr B b w0 w1 t := ⟨k.1, h.2.1.trans k.2.1, h.2.2.trans k.2.2⟩
end Go.Proofs.YtldlkbjbfgieeaaGreatDoor.Pt
