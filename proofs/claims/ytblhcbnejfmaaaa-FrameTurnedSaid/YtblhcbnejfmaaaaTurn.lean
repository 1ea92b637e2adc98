/- FrameTurned: a frame of which one byte is another one is none. -/
import Derived.Test.YtblhcbnejfmaaaaFbk
import Derived.Test.YtblhcbnejfmaaaaQy5
import Derived.Lib.Hide
import Derived.StillTailTactics
namespace Go.Proofs.Ytblhcbnejfmaaaa.Turn
set_option linter.unusedVariables false
set_option linter.unusedSimpArgs false
open Go.RowKit Go.Proofs.YtblhcbnejfmaaaaW.PrintWords Go.Proofs.YtblhcbnejfmaaaaW.PrintLast Go.Proofs.YtblhcbnejfmaaaaW.PrintMore Go.Proofs.Ytblhcbnejfmaaaa.Num Go.Proofs.Ytblhcbnejfmaaaa.Vth Go.Proofs.Ytblhcbnejfmaaaa.Giv Go.Proofs.Ytblhcbnejfmaaaa.Q Go.Proofs.Ytblhcbnejfmaaaa.Vrd Go.Proofs.Ytblhcbnejfmaaaa.Fad Go.Proofs.Ytblhcbnejfmaaaa.Fth Go.Proofs.Ytblhcbnejfmaaaa.Fbk
attribute [local go_sem] max2_int min2_int max_two min_two max_three min_three max_four min_four
/-! ### the plain law -/
theorem sm_set (l : List Int) : ∀ (i : Nat) (v : Int), i < l.length → sm (l.set i v) = sm l + (v - l.getD i 0) := by
  induction l with
  | nil => intro i v h; simp at h
  | cons x l ih =>
    intro i v h
    cases i with
    | zero => simp [sm]; omega
    | succ i => simp only [List.set_cons_succ, sm, List.getD_cons_succ]; rw [ih i v (by simpa using h)]; omega
theorem set_all {l : List Int} (h : ∀ x ∈ l, 0 ≤ x ∧ x ≤ 255) (i : Nat) {v : Int} (h1 : 0 ≤ v) (h2 : v ≤ 255) : ∀ x ∈ l.set i v, 0 ≤ x ∧ x ≤ 255 := by
  intro x hx
  rcases List.mem_or_eq_of_mem_set hx with h' | rfl
  · exact h x h'
  · exact ⟨h1, h2⟩
theorem getD_bt (s : ByteArray) (i : Nat) : (bytesOf s).getD i 0 = bt s i := by rw [← rd_bytesOf]; simp [rd]
theorem one_ne (s : ByteArray) (i : Nat) (y : Int) (hi : i < s.size) (h1 : 0 ≤ y) (h2 : y ≤ 255) (hne : y ≠ bt s i) : en (hv (strOfNums ((bytesOf s).set i y))) ≠ en (hv s) := by
  have hb := bt_range s i
  have hl : i < (bytesOf s).length := by rw [bytesOf_length]; exact hi
  have b1 := hv_bd (strOfNums ((bytesOf s).set i y))
  have b2 := hv_bd s
  intro h
  have h3 : (hv (strOfNums ((bytesOf s).set i y))).1 = (hv s).1 := by unfold en at h; omega
  rw [hv_eq, hv_eq, bytes_of_nums _ (set_all (bytes_range s) i h1 h2), sm_set _ _ _ hl, getD_bt] at h3
  dsimp only at h3
  omega
theorem set_ne {l : List Int} {i : Nat} {y : Int} (hi : i < l.length) (hne : y ≠ l.getD i 0) : l.set i y ≠ l := by
  intro h
  have : (l.set i y).getD i 0 = y := by simp [List.getD_eq_getElem?_getD, hi]
  rw [h] at this
  exact hne this.symm
theorem take_turned (p : ByteArray) (hp : p.size ≤ 4096) (i : Nat) (y : Int) (h1 : (num p.size).size ≤ i) (h2 : i < (fr p).size) (y0 : 0 ≤ y) (y1 : y ≤ 255) (hne : y ≠ bt (fr p) i) :
    take (strOfNums ((bytesOf (fr p)).set i y)) = (⟨#[]⟩, 0, 31) := by
  have hsz := fr_size p
  have htx := text_size p
  have hb : bytesOf (strOfNums ((bytesOf (fr p)).set i y)) = (bytesOf (fr p)).set i y := bytes_of_nums _ (set_all (bytes_range _) i y0 y1)
  have ht : (strOfNums ((bytesOf (fr p)).set i y)).size = (fr p).size := by rw [strOfNums_size, List.length_set, bytesOf_length]
  generalize strOfNums ((bytesOf (fr p)).set i y) = t at *
  have hnl : (bytesOf (num p.size)).length = (num p.size).size := bytesOf_length _
  have hd : dec 0 0 (bytesOf t) = some (zig p.size, (num p.size).size) := by
    rw [hb, fr_bytes, List.append_assoc, List.set_append, if_neg (by omega)]
    exact dec_num _ _ (by omega) (by omega)
  unfold take
  rw [if_neg (by omega), hd]
  dsimp only
  rw [unzig_zig, if_neg (by omega), if_neg (by omega), Int.toNat_natCast, if_neg]
  intro h
  rw [show (num p.size).size + p.size + 4 = t.size by omega, ext_all, ← htx] at h
  have hT : bytesOf (fr p) = bytesOf (text p) ++ four (en (hv (text p))) := by unfold fr seal_; rw [bytes_append, tail4_bytes]
  have hTl : (bytesOf (text p)).length = (text p).size := bytesOf_length _
  have e := congrArg bytesOf h
  unfold seal_ at e
  rw [bytes_append, tail4_bytes, bytes_ext, List.drop_zero, hb, hT, List.set_append] at e
  have hbi : bt (fr p) i = (bytesOf (fr p)).getD i 0 := (getD_bt _ _).symm
  by_cases hlt : i < (bytesOf (text p)).length
  · rw [if_pos hlt, List.take_append_of_le_length (by rw [List.length_set]; omega), List.take_of_length_le (by rw [List.length_set]; omega)] at e
    have e2 := List.append_cancel_left e
    have hx : t.extract 0 (text p).size = strOfNums ((bytesOf (text p)).set i y) := by
      apply bytes_inj
      rw [bytes_of_nums _ (set_all (bytes_range _) i y0 y1), bytes_ext, List.drop_zero, hb, hT, List.set_append, if_pos hlt, List.take_append_of_le_length (by rw [List.length_set]; omega), List.take_of_length_le (by rw [List.length_set]; omega)]
    rw [hx] at e2
    have b1 := hv_bd (strOfNums ((bytesOf (text p)).set i y))
    have b2 := hv_bd (text p)
    have c1 := en_bd _ b1.1 b1.2.1 b1.2.2.1 b1.2.2.2
    have c2 := en_bd _ b2.1 b2.2.1 b2.2.2.1 b2.2.2.2
    refine one_ne (text p) i y (by omega) y0 y1 ?_ (four_inj c1.1 c1.2 c2.1 c2.2 e2)
    rw [hbi, hT] at hne
    rw [← getD_bt]
    intro hc
    apply hne
    rw [hc]
    simp only [List.getD_eq_getElem?_getD]
    rw [List.getElem?_append_left hlt]
  · rw [if_neg hlt, List.take_append_of_le_length (by omega), List.take_of_length_le (by omega)] at e
    have e2 := List.append_cancel_left e
    have hx : t.extract 0 (text p).size = text p := by
      apply bytes_inj
      rw [bytes_ext, List.drop_zero, hb, hT, List.set_append, if_neg hlt, List.take_append_of_le_length (by omega), List.take_of_length_le (by omega)]
    rw [hx] at e2
    have h4 : (four (en (hv (text p)))).length = 4 := rfl
    refine set_ne (l := four (en (hv (text p)))) (i := i - (bytesOf (text p)).length) (y := y) (by omega) ?_ e2.symm
    rw [hbi, hT] at hne
    intro hc
    apply hne
    rw [hc]
    simp only [List.getD_eq_getElem?_getD]
    rw [List.getElem?_append_right (by omega)]
/-! ### bytes in memory -/
def Gives (f : Nat) (args : Array Value) (v : Value) : Prop := ∀ w, Calls Try.prog f args w fun e w' => e = .returned v ∧ Below w.heap.size w w'
/-- the block holds these bytes, and they may be written -/
def Bytes (W : World) (b : Nat) (xs : List Int) : Prop := ∀ j, j < xs.length → W.cell? ⟨b, j, none⟩ = some (.int .u8 (xs.getD j 0)) ∧ W.frozen? ⟨b, j, none⟩ = false
theorem bytes_new (W : World) (s : ByteArray) : Bytes (Lib.bytesWorld W 5 s) W.heap.size (bytesOf s) := by
  intro j hj
  rw [bytesOf_length] at hj
  have h' : j < s.data.toList.length := by rw [data_length]; exact hj
  refine ⟨?_, ?_⟩
  · rw [Lib.bytesWorld_cell W 5 s j hj]
    simp [bytesOf, List.getD_eq_getElem?_getD, List.getElem?_eq_getElem h']
  · unfold World.frozen?
    simp only [Lib.bytesWorld_at_new]
    have : j < (Lib.bytesCells W 5 s).size := by simp [Lib.bytesCells]; have : s.data.size = s.size := rfl; omega
    simp; omega
theorem Bytes.below {W W' : World} {b : Nat} {xs : List Int} (h : Bytes W b xs) (hb : Below W.heap.size W W') : Bytes W' b xs := by
  intro j hj
  obtain ⟨h1, h2⟩ := h j hj
  have hlt := World.block_lt_of_cell? W _ h1
  exact ⟨(hb.cell (p := ⟨b, j, none⟩) hlt).trans h1, (hb.frozen (p := ⟨b, j, none⟩) hlt).trans h2⟩
theorem Bytes.set {W : World} {b : Nat} {xs : List Int} (h : Bytes W b xs) (i : Nat) (v : Int) (hi : i < xs.length) : Bytes (W.setCell ⟨b, i, none⟩ (.int .u8 v)) b (xs.set i v) := by
  intro j hj
  rw [List.length_set] at hj
  obtain ⟨h1, h2⟩ := h j hj
  refine ⟨?_, by rw [World.frozen?_setCell]; exact h2⟩
  by_cases hij : i = j
  · subst hij
    rw [World.cell?_setCell_same' _ _ _ (by rw [h1]; rfl)]
    simp [List.getD_eq_getElem?_getD, hi]
  · rw [World.cell?_setCell_other _ _ _ _ (by simp [hij]), h1]
    simp [List.getD_eq_getElem?_getD, hij]
theorem Bytes.reads {W : World} {b : Nat} {xs : List Int} (h : Bytes W b xs) (hl : xs.length ≤ 9223372036854775807) : ReadsInt W .u8 (some ⟨b, 0, none⟩) xs.length xs := by
  refine ⟨rfl, hl, fun _ => ⟨_, rfl, fun j hj => ?_⟩⟩
  rw [add_plain]; exact (h j hj).1
theorem pick_same (c n : Int) (w : World) (h1 : -9223372036854775808 ≤ c) (h2 : c ≤ 9223372036854775807) (hn : 0 < n) :
    Calls Try.prog 13 #[.int .i64 c, .int .i64 n] w fun e w' => e = .returned (.int .i64 ((if c < 0 then -(c + 1) else c) % n)) ∧ w' = w := by
  have hz : (n == 0) = false := by simp; omega
  by_cases hc : c < 0
  · rw [if_pos hc]
    have p0 : -9223372036854775808 ≤ c + 1 := by omega
    have p1 : (0 : Int) ≤ -(c + 1) := by omega
    go_enter Try.func13, Try.ntmps13
    go_wp2
    go_ret
    exact ⟨by rw [← Int.tmod_eq_emod_of_nonneg p1, Int.neg_tmod]; rfl, rfl⟩
  · rw [if_neg hc]
    have hc : 0 ≤ c := by omega
    go_enter Try.func13, Try.ntmps13
    go_wp2
    go_ret
    exact ⟨rfl, rfl⟩
theorem xor8 (a b : Nat) (ha : a < 256) (hb : b < 256) : Go.bits .xor .u8 (a : Int) (b : Int) = ((a ^^^ b : Nat) : Int) := by
  have ha' : a % 2 ^ IntKind.u8.bits = a := Nat.mod_eq_of_lt ha
  have hb' : b % 2 ^ IntKind.u8.bits = b := Nat.mod_eq_of_lt hb
  simp only [Go.bits, BitVec.ofInt_natCast, BitVec.toNat_xor, BitVec.toNat_ofNat, ha', hb']
  have : a ^^^ b < 2 ^ 8 := Nat.xor_lt_two_pow ha hb
  rw [IntKind.wrap_u8]; omega
theorem xor_ne (x d : Int) (h1 : 0 ≤ x) (h2 : x ≤ 255) (h3 : 1 ≤ d) (h4 : d ≤ 255) : 0 ≤ Go.bits .xor .u8 x d ∧ Go.bits .xor .u8 x d ≤ 255 ∧ Go.bits .xor .u8 x d ≠ x := by
  obtain ⟨a, rfl⟩ := Int.eq_ofNat_of_zero_le h1
  obtain ⟨b, rfl⟩ := Int.eq_ofNat_of_zero_le (show 0 ≤ d by omega)
  rw [xor8 a b (by omega) (by omega)]
  have : a ^^^ b < 2 ^ 8 := Nat.xor_lt_two_pow (show a < 2 ^ 8 by omega) (show b < 2 ^ 8 by omega)
  refine ⟨by omega, by omega, fun h => ?_⟩
  have h' : a ^^^ b = a := by omega
  have h5 := congrArg (a ^^^ ·) h'
  simp only [← Nat.xor_assoc, Nat.xor_self, Nat.zero_xor] at h5
  omega
end Go.Proofs.Ytblhcbnejfmaaaa.Turn
