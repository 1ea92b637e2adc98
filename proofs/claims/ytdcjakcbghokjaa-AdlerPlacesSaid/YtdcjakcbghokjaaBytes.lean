import Derived.Test.YtdcjakcbghokjaaRolls
import Derived.Lib.Hide
import Derived.StillTailTactics
namespace Go.Proofs.Ytdcjakcbghokjaa.Bytes
open Go.RowKit Go.Proofs.Ytdcjakcbghokjaa.PAdlerRolls Go.Proofs.Ytdcjakcbghokjaa.Rolls Go.Proofs.YtdcjakcbghokjaaW.PrintWords Go.Proofs.YtdcjakcbghokjaaW.PrintLast Go.Proofs.YtdcjakcbghokjaaW.PrintMore
set_option linter.unusedVariables false
set_option linter.unusedSimpArgs false
/-- the block holds these bytes, and they may be written -/
def Bytes (W : World) (b : Nat) (xs : List Int) : Prop := ∀ j, j < xs.length → W.cell? ⟨b, j, none⟩ = some (.int .u8 (xs.getD j 0)) ∧ W.frozen? ⟨b, j, none⟩ = false
theorem bytes_new (W : World) (s : ByteArray) : Bytes (Lib.bytesWorld W 5 s) W.heap.size (bytesOf s) := by
  intro j hj
  rw [bytesOf_length] at hj
  have h' : j < s.data.toList.length := by rw [data_length]; exact hj
  refine ⟨?_, ?_⟩
  · rw [Lib.bytesWorld_cell W 5 s j hj]
    simp [bytesOf, List.getD_eq_getElem?_getD, List.getElem?_eq_getElem h']
  · unfold World.frozen?
    simp only [Lib.bytesWorld_at_new]
    have : j < (Lib.bytesCells W 5 s).size := by simp [Lib.bytesCells]; have : s.data.size = s.size := rfl; omega
    simp; omega
theorem Bytes.below {W W' : World} {b : Nat} {xs : List Int} (h : Bytes W b xs) (hb : Below W.heap.size W W') : Bytes W' b xs := by
  intro j hj
  obtain ⟨h1, h2⟩ := h j hj
  have hlt := World.block_lt_of_cell? W _ h1
  exact ⟨(hb.cell (p := ⟨b, j, none⟩) hlt).trans h1, (hb.frozen (p := ⟨b, j, none⟩) hlt).trans h2⟩
theorem Bytes.set {W : World} {b : Nat} {xs : List Int} (h : Bytes W b xs) (i : Nat) (v : Int) (hi : i < xs.length) : Bytes (W.setCell ⟨b, i, none⟩ (.int .u8 v)) b (xs.set i v) := by
  intro j hj
  rw [List.length_set] at hj
  obtain ⟨h1, h2⟩ := h j hj
  refine ⟨?_, by rw [World.frozen?_setCell]; exact h2⟩
  by_cases hij : i = j
  · subst hij
    rw [World.cell?_setCell_same' _ _ _ (by rw [h1]; rfl)]
    simp [List.getD_eq_getElem?_getD, hi]
  · rw [World.cell?_setCell_other _ _ _ _ (by simp [hij]), h1]
    simp [List.getD_eq_getElem?_getD, hij]
theorem Bytes.reads {W : World} {b : Nat} {xs : List Int} (h : Bytes W b xs) (hl : xs.length ≤ 9223372036854775807) : ReadsInt W .u8 (some ⟨b, 0, none⟩) xs.length xs := by
  refine ⟨rfl, hl, fun _ => ⟨_, rfl, fun j hj => ?_⟩⟩
  rw [add_plain]; exact (h j hj).1
theorem pick_same (c n : Int) (w : World) (h1 : -9223372036854775808 ≤ c) (h2 : c ≤ 9223372036854775807) (hn : 0 < n) :
    Calls Try.prog 11 #[.int .i64 c, .int .i64 n] w fun e w' => e = .returned (.int .i64 ((if c < 0 then -(c + 1) else c) % n)) ∧ w' = w := by
  have hz : (n == 0) = false := by simp; omega
  by_cases hc : c < 0
  · rw [if_pos hc]
    have p0 : -9223372036854775808 ≤ c + 1 := by omega
    have p1 : (0 : Int) ≤ -(c + 1) := by omega
    go_enter Try.func11, Try.ntmps11
    go_wp2
    go_ret
    exact ⟨by rw [← Int.tmod_eq_emod_of_nonneg p1, Int.neg_tmod]; rfl, rfl⟩
  · rw [if_neg hc]
    have hc : 0 ≤ c := by omega
    go_enter Try.func11, Try.ntmps11
    go_wp2
    go_ret
    exact ⟨rfl, rfl⟩
theorem xor8 (a b : Nat) (ha : a < 256) (hb : b < 256) : Go.bits .xor .u8 (a : Int) (b : Int) = ((a ^^^ b : Nat) : Int) := by
  have ha' : a % 2 ^ IntKind.u8.bits = a := Nat.mod_eq_of_lt ha
  have hb' : b % 2 ^ IntKind.u8.bits = b := Nat.mod_eq_of_lt hb
  simp only [Go.bits, BitVec.ofInt_natCast, BitVec.toNat_xor, BitVec.toNat_ofNat, ha', hb']
  have : a ^^^ b < 2 ^ 8 := Nat.xor_lt_two_pow ha hb
  exact wraps_u8 _ (Int.natCast_nonneg _) (by omega)
theorem xor_ne (x d : Int) (h1 : 0 ≤ x) (h2 : x ≤ 255) (h3 : 1 ≤ d) (h4 : d ≤ 255) : 0 ≤ Go.bits .xor .u8 x d ∧ Go.bits .xor .u8 x d ≤ 255 ∧ Go.bits .xor .u8 x d ≠ x := by
  obtain ⟨a, rfl⟩ := Int.eq_ofNat_of_zero_le h1
  obtain ⟨b, rfl⟩ := Int.eq_ofNat_of_zero_le (show 0 ≤ d by omega)
  rw [xor8 a b (by omega) (by omega)]
  have : a ^^^ b < 2 ^ 8 := Nat.xor_lt_two_pow (show a < 2 ^ 8 by omega) (show b < 2 ^ 8 by omega)
  refine ⟨by omega, by omega, fun h => ?_⟩
  have h' : a ^^^ b = a := by omega
  have h5 := congrArg (a ^^^ ·) h'
  simp only [← Nat.xor_assoc, Nat.xor_self, Nat.zero_xor] at h5
  omega
theorem sm_set (l : List Int) : ∀ (i : Nat) (v : Int), i < l.length → sm (l.set i v) = sm l + (v - l.getD i 0) := by
  induction l with
  | nil => intro i v h; simp at h
  | cons x l ih =>
    intro i v h
    cases i with
    | zero => simp [sm]; omega
    | succ i => simp only [List.set_cons_succ, sm, List.getD_cons_succ]; rw [ih i v (by simpa using h)]; omega
theorem wt_set (l : List Int) : ∀ (i : Nat) (v : Int), i < l.length → wt (l.set i v) = wt l + (v - l.getD i 0) * ((l.length : Int) - i) := by
  induction l with
  | nil => intro i v h; simp at h
  | cons x l ih =>
    intro i v h
    cases i with
    | zero => simp only [List.set_cons_zero, wt, List.getD_cons_zero, List.length_cons]; grind
    | succ i => simp only [List.set_cons_succ, wt, List.getD_cons_succ, List.length_set, List.length_cons]; rw [ih i v (by simpa using h)]; grind
theorem bytes_of_nums (l : List Int) (h : ∀ x ∈ l, 0 ≤ x ∧ x ≤ 255) : bytesOf (strOfNums l) = l := by
  unfold bytesOf
  rw [strOfNums_data, List.map_map]
  conv => rhs; rw [← List.map_id l]
  refine List.map_congr_left fun x hx => ?_
  have := h x hx
  simp [UInt8.toNat_ofNat']
  omega
theorem bytes_all (s : ByteArray) : ∀ x ∈ bytesOf s, 0 ≤ x ∧ x ≤ 255 := by
  intro x hx
  unfold bytesOf at hx
  obtain ⟨b, _, rfl⟩ := List.mem_map.1 hx
  have := b.toNat_lt
  omega
theorem set_all {l : List Int} (h : ∀ x ∈ l, 0 ≤ x ∧ x ≤ 255) (i : Nat) {v : Int} (h1 : 0 ≤ v) (h2 : v ≤ 255) : ∀ x ∈ l.set i v, 0 ≤ x ∧ x ≤ 255 := by
  intro x hx
  rcases List.mem_or_eq_of_mem_set hx with h' | rfl
  · exact h x h'
  · exact ⟨h1, h2⟩
theorem getD_bt (s : ByteArray) (i : Nat) : (bytesOf s).getD i 0 = bt s i := by rw [← rd_bytesOf]; simp [rd]
/-- unlike low halves make unlike sums -/
theorem one_ne (s : ByteArray) (i : Nat) (y : Int) (hi : i < s.size) (h1 : 0 ≤ y) (h2 : y ≤ 255) (hne : y ≠ bt s i) : en (hv (strOfNums ((bytesOf s).set i y))) ≠ en (hv s) := by
  have hb := bt_range s i
  have hl : i < (bytesOf s).length := by rw [bytesOf_length]; exact hi
  have b1 := hv_bd (strOfNums ((bytesOf s).set i y))
  have b2 := hv_bd s
  intro h
  have h3 : (hv (strOfNums ((bytesOf s).set i y))).1 = (hv s).1 := by unfold en at h; omega
  rw [hv_eq, hv_eq, bytes_of_nums _ (set_all (bytes_all s) i h1 h2), sm_set _ _ _ hl, getD_bt] at h3
  dsimp only at h3
  omega
end Go.Proofs.Ytdcjakcbghokjaa.Bytes
