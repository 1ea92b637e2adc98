/- Bytes in memory, of which one is written. -/
import Derived.Test.YtdgaancbeakfdaaDoorTurn
import Derived.Test.YtdgaancbeakfdaaDoorQy5
import Derived.Lib.Hide
import Derived.StillTailTactics
namespace Go.Proofs.YtdgaancbeakfdaaDoor.Tu
set_option linter.unusedVariables false
set_option linter.unusedSimpArgs false
open Go.RowKit Go.Proofs.YtdgaancbeakfdaaDoorW.PrintWords Go.Proofs.YtdgaancbeakfdaaDoorW.PrintLast Go.Proofs.YtdgaancbeakfdaaDoor.Mo Go.Proofs.YtdgaancbeakfdaaDoor.Num Go.Proofs.YtdgaancbeakfdaaDoor.Vth Go.Proofs.YtdgaancbeakfdaaDoor.Giv Go.Proofs.YtdgaancbeakfdaaDoor.Q Go.Proofs.YtdgaancbeakfdaaDoor.Vrd Go.Proofs.YtdgaancbeakfdaaDoor.Fad Go.Proofs.YtdgaancbeakfdaaDoor.Fth Go.Proofs.YtdgaancbeakfdaaDoor.Fbk
attribute [local go_sem] max2_int min2_int max_two min_two max_three min_three max_four min_four
/-! ### bytes in memory -/
theorem addp (g j : Nat) : (⟨g, 0, none⟩ : Addr).add j = ⟨g, j, none⟩ := by unfold Addr.add; split <;> simp_all
/-- the block holds these bytes, and they may be written -/
def Bytes (W : World) (b : Nat) (xs : List Int) : Prop := ∀ j, j < xs.length → W.cell? ⟨b, j, none⟩ = some (.int .u8 (xs.getD j 0)) ∧ W.frozen? ⟨b, j, none⟩ = false
theorem bytes_new (W : World) (s : ByteArray) : Bytes (Lib.bytesWorld W 5 s) W.heap.size (bytesOf s) := by
  intro j hj
  rw [bytesOf_length] at hj
  have h' : j < s.data.toList.length := by rw [data_length]; exact hj
  refine ⟨?_, ?_⟩
  · rw [Lib.bytesWorld_cell W 5 s j hj]
    simp [bytesOf, List.getD_eq_getElem?_getD, List.getElem?_eq_getElem h']
  · unfold World.frozen?
    simp only [Lib.bytesWorld_at_new]
    have : j < (Lib.bytesCells W 5 s).size := by simp [Lib.bytesCells]; have : s.data.size = s.size := rfl; omega
    simp; omega
theorem Bytes.below {W W' : World} {b : Nat} {xs : List Int} (h : Bytes W b xs) (hb : Below W.heap.size W W') : Bytes W' b xs := by
  intro j hj
  obtain ⟨h1, h2⟩ := h j hj
  have hlt := World.block_lt_of_cell? W _ h1
  exact ⟨(hb.cell (p := ⟨b, j, none⟩) hlt).trans h1, (hb.frozen (p := ⟨b, j, none⟩) hlt).trans h2⟩
theorem Bytes.set {W : World} {b : Nat} {xs : List Int} (h : Bytes W b xs) (i : Nat) (v : Int) (hi : i < xs.length) : Bytes (W.setCell ⟨b, i, none⟩ (.int .u8 v)) b (xs.set i v) := by
  intro j hj
  rw [List.length_set] at hj
  obtain ⟨h1, h2⟩ := h j hj
  refine ⟨?_, by rw [World.frozen?_setCell]; exact h2⟩
  by_cases hij : i = j
  · subst hij
    rw [World.cell?_setCell_same' _ _ _ (by rw [h1]; rfl)]
    simp [List.getD_eq_getElem?_getD, hi]
  · rw [World.cell?_setCell_other _ _ _ _ (by simp [hij]), h1]
    simp [List.getD_eq_getElem?_getD, hij]
theorem Bytes.reads {W : World} {b : Nat} {xs : List Int} (h : Bytes W b xs) (hl : xs.length ≤ 9223372036854775807) : ReadsInt W .u8 (some ⟨b, 0, none⟩) xs.length xs := by
  refine ⟨rfl, hl, fun _ => ⟨_, rfl, fun j hj => ?_⟩⟩
  rw [addp]; exact (h j hj).1
theorem pick_same (c n : Int) (w : World) (h1 : -9223372036854775808 ≤ c) (h2 : c ≤ 9223372036854775807) (hn : 0 < n) :
    Calls Tryd.prog 16 #[.int .i64 c, .int .i64 n] w fun e w' => e = .returned (.int .i64 ((if c < 0 then -(c + 1) else c) % n)) ∧ w' = w := by
  have hz : (n == 0) = false := by simp; omega
  by_cases hc : c < 0
  · rw [if_pos hc]
    have p0 : -9223372036854775808 ≤ c + 1 := by omega
    have p1 : (0 : Int) ≤ -(c + 1) := by omega
    go_enter Tryd.func16, Tryd.ntmps16
    go_wp2
    go_ret
    exact ⟨by rw [← Int.tmod_eq_emod_of_nonneg p1, Int.neg_tmod]; rfl, rfl⟩
  · rw [if_neg hc]
    have hc : 0 ≤ c := by omega
    go_enter Tryd.func16, Tryd.ntmps16
    go_wp2
    go_ret
    exact ⟨rfl, rfl⟩
theorem xor8 (a b : Nat) (ha : a < 256) (hb : b < 256) : Go.bits .xor .u8 (a : Int) (b : Int) = ((a ^^^ b : Nat) : Int) := by
  have ha' : a % 2 ^ IntKind.u8.bits = a := Nat.mod_eq_of_lt ha
  have hb' : b % 2 ^ IntKind.u8.bits = b := Nat.mod_eq_of_lt hb
  simp only [Go.bits, BitVec.ofInt_natCast, BitVec.toNat_xor, BitVec.toNat_ofNat, ha', hb']
  have : a ^^^ b < 2 ^ 8 := Nat.xor_lt_two_pow ha hb
  rw [IntKind.wrap_u8]; omega
theorem xor_ne (x d : Int) (h1 : 0 ≤ x) (h2 : x ≤ 255) (h3 : 1 ≤ d) (h4 : d ≤ 255) : 0 ≤ Go.bits .xor .u8 x d ∧ Go.bits .xor .u8 x d ≤ 255 ∧ Go.bits .xor .u8 x d ≠ x := by
  obtain ⟨a, rfl⟩ := Int.eq_ofNat_of_zero_le h1
  obtain ⟨b, rfl⟩ := Int.eq_ofNat_of_zero_le (show 0 ≤ d by omega)
  rw [xor8 a b (by omega) (by omega)]
  have : a ^^^ b < 2 ^ 8 := Nat.xor_lt_two_pow (show a < 2 ^ 8 by omega) (show b < 2 ^ 8 by omega)
  refine ⟨by omega, by omega, fun h => ?_⟩
  have h' : a ^^^ b = a := by omega
  have h5 := congrArg (a ^^^ ·) h'
  simp only [← Nat.xor_assoc, Nat.xor_self, Nat.zero_xor] at h5
  omega
theorem bytes_below {B : Nat} {w W : World} (h : Below B w W) (hB : B ≤ W.heap.size) (e : TypeId) (s : ByteArray) : Below B w (Lib.bytesWorld W e s) := h.trans ⟨rfl, rfl, rfl, by rw [Lib.bytesWorld_size]; omega, fun i hi => Lib.bytesWorld_at_old W e s i (by omega)⟩
theorem str_of {P : Program} {w : World} {src dst e : TypeId} {b n c : Nat} {xs : List Int} (hs : P.underlying src = some (.slice e)) (he : P.underlying e = some (.int .u8)) (hd : P.underlying dst = some .string) (h : Bytes w b xs) (hn : xs.length = n) : (convert src dst (.slice (some ⟨b, 0, none⟩) n c)).run P w = .ok (.string (strOfNums xs)) w := by
  have hl : (loadCells ⟨b, 0, none⟩ n).run P w = .ok (xs.map (Value.int .u8)).toArray w := by
    have := run_loadCells_list (P := P) w ⟨b, 0, none⟩ (xs.map (Value.int .u8)) (fun j v hj => by
      have hjl : j < xs.length := by
        rcases Nat.lt_or_ge j xs.length with h' | h'
        · exact h'
        · rw [List.getElem?_eq_none (by rw [List.length_map]; exact h')] at hj
          cases hj
      rw [addp, (h j hjl).1]
      rw [List.getElem?_map, List.getElem?_eq_getElem hjl] at hj
      simp at hj
      subst hj
      simp [List.getD_eq_getElem?_getD, List.getElem?_eq_getElem hjl])
    simpa [hn] using this
  rw [run_convert_bytes_string w src dst e _ n c hs he hd, run_bytesToString w ⟨b, 0, none⟩ n c xs hl, foldl_push_bytes]
  simp [strOfNums, ByteArray.empty, ByteArray.emptyWithCapacity]
  rfl
theorem getD_bt (s : ByteArray) (i : Nat) : (bytesOf s).getD i 0 = bt s i := by rw [← rd_bytesOf]; simp [rd]
theorem num_one (n : Nat) (HN : (n : Int) ≤ 9223372036854775807) (h : (num n).size = 1) : bt (num n) 0 < 128 := by
  rw [num_size] at h
  by_cases hz : 128 ≤ zig (n : Int)
  · rw [digs, if_pos hz] at h
    have := digs_ne 8 (zig (n : Int) / 128)
    cases hd : digs 8 (zig (n : Int) / 128) with
    | nil => exact absurd hd this
    | cons x y => rw [hd] at h; simp at h
  · have h0 : 0 ≤ zig (n : Int) := by unfold zig; split <;> omega
    have hb : bytesOf (num n) = digs 9 (zig (n : Int)) := num_bytes n (by omega) HN
    rw [show ((0 : Int)) = ((0 : Nat) : Int) from rfl, ← getD_bt, hb, digs, if_neg hz]
    simp; omega
theorem wrap_d (q : Nat) (hq : q < 255) : IntKind.u8.wrap (IntKind.i64.wrap (1 + (q : Int))) = 1 + q := by
  rw [IntKind.wrap_i64, IntKind.wrap_u8]; omega
end Go.Proofs.YtdgaancbeakfdaaDoor.Tu
