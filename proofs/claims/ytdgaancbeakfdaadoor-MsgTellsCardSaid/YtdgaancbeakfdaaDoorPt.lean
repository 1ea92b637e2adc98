/- msg.put: numbers written into a builder. -/
import Derived.Test.YtdgaancbeakfdaaDoorBw
import Derived.Test.YtdgaancbeakfdaaDoorGiv
namespace Go.Proofs.YtdgaancbeakfdaaDoor.Pt
open Go.RowKit Go.Shelf Go.Proofs.YtdgaancbeakfdaaDoorW.PrintWords Go.Proofs.YtdgaancbeakfdaaDoor.Num Go.Proofs.YtdgaancbeakfdaaDoor.Bw
set_option linter.unusedVariables false
set_option linter.unusedSimpArgs false
def nums : List Int → ByteArray
  | [] => ByteArray.empty
  | x :: xs => num x ++ nums xs
theorem nums_append : ∀ xs ys : List Int, nums (xs ++ ys) = nums xs ++ nums ys
  | [], ys => by simp [nums]
  | x :: xs, ys => by simp [nums, nums_append xs ys, ByteArray.append_assoc]
theorem nums_snoc (xs : List Int) (i : Nat) (h : i < xs.length) : nums (xs.take (i + 1)) = nums (xs.take i) ++ num xs[i] := by
  rw [List.take_succ_eq_append_getElem h, nums_append]
  simp [nums]
theorem num_le (x : Int) : (num x).size ≤ 10 := by
  rw [show (num x).size = (digs 9 (zig x)).length from strOfNums_size _]
  exact digs_len 9 (zig x)
theorem nums_size : ∀ xs : List Int, (nums xs).size ≤ 10 * xs.length
  | [] => by simp [nums]
  | x :: xs => by
    have := nums_size xs
    have := num_le x
    simp only [nums, ByteArray.size_append, List.length_cons]
    omega
theorem cells_app (s t : ByteArray) : Lib.strCells s ++ Lib.strCells t = Lib.strCells (s ++ t) := by
  unfold Lib.strCells
  rw [← List.map_append]; simp
/-- a builder, and what was left alone since w0 -/
def Wr (B b : Nat) (w0 w : World) (s : ByteArray) : Prop := Lib.IsBuilder 48 5 B b (Lib.strCells s) w ∧ Below B w0 w ∧ KeepT w0 w b
theorem Wr.refl {B b : Nat} {w : World} {s : ByteArray} (h : Lib.IsBuilder 48 5 B b (Lib.strCells s) w) : Wr B b w w s := ⟨h, Below.refl _ _, KeepT.refl _ _⟩
theorem below_builder {B b : Nat} {w w1 : World} {bs : List Value} (h : Lib.IsBuilder 48 5 B b bs w) (hb : Below w.heap.size w w1) : Lib.IsBuilder 48 5 B b bs w1 := by
  have go : ∀ p, Lib.BuilderAt 48 5 B b p bs w → Lib.BuilderAt 48 5 B b p bs w1 := fun p hp => by
    obtain ⟨hB, v, hbk, hown, hne⟩ := hp
    exact ⟨hB, v, (hb.block b (blk_lt hbk)).trans hbk, own_move hown (fun k hk => hb.block k (own_lt hown k hk)), hne⟩
  rcases h with h | h
  · exact .inl (go _ h)
  · exact .inr (go _ h)
theorem write_s (B b : Nat) (s t : ByteArray) (w0 w : World) (h : Wr B b w0 w s) (hlen : s.size + t.size ≤ 140737488355328) (hBw : B ≤ w.heap.size) :
    Calls Tryd.prog 21 #[.pointer (some ⟨b, 0, none⟩), .string t] w fun e w' => e = .returned (.tuple #[.int .i64 t.size, .nilIface]) ∧ Wr B b w0 w' (s ++ t) ∧ KeepT w w' b := by
  refine (write_any B b (Lib.strCells s) t w h.1 (by rw [Lib.strCells_length]; exact hlen) hBw).mono ?_
  rintro e w' ⟨rfl, h1, h2, h3⟩
  exact ⟨rfl, ⟨Or.inr (by rw [← cells_app]; exact h1), h.2.1.trans h2, h.2.2.trans h3⟩, h3⟩
theorem Wr.below {B b : Nat} {w0 w w1 : World} {s : ByteArray} (h : Wr B b w0 w s) (hB : B ≤ w.heap.size) (hb : Below w.heap.size w w1) : Wr B b w0 w1 s :=
  ⟨below_builder h.1 hb, h.2.1.trans (hb.mono hB), h.2.2.trans (KeepT.of_below hb)⟩
theorem Wr.size {B b : Nat} {w0 w : World} {s : ByteArray} (h : Wr B b w0 w s) : w0.heap.size ≤ w.heap.size := h.2.2.1
theorem Wr.lt {B b : Nat} {w0 w : World} {s : ByteArray} (h : Wr B b w0 w s) : B ≤ b := by rcases h.1 with h | h <;> exact h.1
theorem Wr.ne {B b : Nat} {w0 : World} {s : ByteArray} (h : Wr B b w0 w0 s) {a t : Nat} {cs : Array Value} (ha : w0.heap[a]? = some (.cells cs t (0, 0))) (ht : t ≠ 48) : a ≠ b := by
  rintro rfl
  rcases h.1 with ⟨_, v, hb, _⟩ | ⟨_, v, hb, _⟩ <;> (rw [ha] at hb; injection hb with hb; injection hb with _ hb; exact ht hb)
theorem Wr.trans {B b : Nat} {w0 w w1 : World} {s t : ByteArray} (h : Wr B b w0 w s) (k : Wr B b w w1 t) : Wr B b w0 w1 t := ⟨k.1, h.2.1.trans k.2.1, h.2.2.trans k.2.2⟩
theorem Wr.drew {B b : Nat} {w0 w : World} {s : ByteArray} (h : Wr B b w0 w s) (hB : B ≤ w.heap.size) : Wr B b w0 w.drew s := h.below hB (below_drew (Below.refl _ _))
/-- whole numbers in a block -/
def NumsAt (w : World) (a : Nat) (xs : List Int) : Prop := w.heap[a]? = some (.cells (xs.map (Value.int .i64)).toArray 3 (0, 0))
theorem NumsAt.get {w : World} {a : Nat} {xs : List Int} (h : NumsAt w a xs) (i : Nat) (hi : i < xs.length) : w.cell? ⟨a, i, none⟩ = some (.int .i64 xs[i]) := by
  rw [blk_cell h i]; simp [hi]
set_option maxHeartbeats 4000000 in
theorem put_any (B b : Nat) (s : ByteArray) (a : Nat) (xs : List Int) (w : World) (h : Wr B b w w s) (ha : NumsAt w a xs) (hx : ∀ x ∈ xs, -9223372036854775808 ≤ x ∧ x ≤ 9223372036854775807) (hl : xs.length ≤ 1000) (hs : s.size ≤ 100000000) (hBw : B ≤ w.heap.size) :
    Calls Tryd.prog 20 #[.pointer (some ⟨b, 0, none⟩), .slice (some ⟨a, 0, none⟩) xs.length xs.length] w fun e w' => e = .returned (.tuple #[]) ∧ Wr B b w w' (s ++ nums xs) := by
  have hab : a ≠ b := h.ne ha (by decide)
  have h := Aside0.mk h
  go_enter Tryd.func20, Tryd.ntmps20
  go_wp2_with fail
  go_loopg [8] xs.length (fun kq v8 w' => ∃ i : Nat, v8 = .int .i64 (i : Int) ∧ i + kq = xs.length ∧ Aside0 (Wr B b w w' (s ++ nums (xs.take i))))
  case atStart => exact ⟨0, rfl, by omega, Aside0.mk (by simpa [nums] using h.out)⟩
  case round =>
    obtain ⟨i, rfl, hik, HW⟩ := hrel
    by_cases h1 : i < xs.length
    · obtain ⟨m, rfl⟩ : ∃ m, gk = m + 1 := ⟨gk - 1, by omega⟩
      have d1 : decide ((i : Int) < (xs.length : Int)) = true := by simp; exact h1
      have p1 : 0 ≤ (i : Int) := by omega
      have q1 : (i : Int) < (xs.length : Int) := by omega
      have e1 : (i : Int).toNat = i := Int.toNat_natCast i
      have ha1 : NumsAt wr a xs := HW.out.2.2.2 a _ _ ha (by decide) hab
      have hg := ha1.get i h1
      have hxi := hx _ (List.getElem_mem h1)
      have hsn := nums_snoc xs i h1
      replace hsn := Aside0.mk hsn
      have hsz := nums_size (xs.take i)
      have hnl := num_le xs[i]
      have htl : (xs.take i).length ≤ 1000 := by rw [List.length_take]; omega
      have hss : (s ++ nums (xs.take i)).size ≤ 100010000 := by rw [ByteArray.size_append]; omega
      generalize xs[i] = x at *
      replace p1 := eq_true p1
      replace q1 := eq_true q1
      go_wp2_with fail
      have hwr := HW.out.size
      refine (num_calls x wr hxi.1 hxi.2).mono ?_; rintro ee w5 ⟨rfl, hb5⟩
      have H5 := HW.out.below (by omega) hb5
      have hs5 := hb5.size
      clear hg HW
      go_wp2_with fail
      refine (write_s B b (s ++ nums (xs.take i)) (num x) w w5 H5 (by omega) (by omega)).mono ?_; rintro ee w6 ⟨rfl, H6, -⟩
      rw [ByteArray.append_assoc, ← hsn.out] at H6
      clear H5
      go_wp2_with fail
      go_roundg m
      case measure => omega
      case rel => exact ⟨i + 1, by rw [Int.natCast_add]; rfl, by omega, Aside0.mk H6⟩
    · have d1 : decide ((i : Int) < (xs.length : Int)) = false := by simp; omega
      have et : xs.take i = xs := List.take_of_length_le (by omega)
      rw [et] at HW
      go_wp2_with fail
      go_end0
      exact ⟨rfl, HW.out⟩
end Go.Proofs.YtdgaancbeakfdaaDoor.Pt
