/- A bag's operations. -/
import Derived.Test.YtoiilcljdepdaaaWi
import Derived.Laws.ResultCell
namespace Go.Proofs.Ytoiilcljdepdaaa.Bg
set_option linter.unusedVariables false
set_option linter.unusedSimpArgs false
open Go.RowKit Go.Proofs.YtoiilcljdepdaaaW.PrintWords Go.Proofs.YtoiilcljdepdaaaW.PrintLast Go.Proofs.YtoiilcljdepdaaaW.PrintMore Go.Proofs.Ytoiilcljdepdaaa.PBagPlays
attribute [local go_sem] max2_int min2_int max_two min_two max_three min_three max_four min_four
theorem Bg.below {t : Nat} {w0 W W1 : World} {g : Nat} {v : Value} {xs : List ByteArray} (h : Bg t w0 W g v xs) (hb : Below W.heap.size W W1) : Bg t w0 W1 g v xs := ⟨(hb.block g (blk_lt h.1)).trans h.1, h.2.1, Kd.R_below h.2.2 hb⟩
theorem Len_any (g : Nat) (v : Value) (xs : List ByteArray) (w0 w : World) (h : Bg 43 w0 w g v xs) :
    Calls Try.prog 21 #[.pointer (some ⟨g, 0, none⟩)] w fun e w' => e = .returned (.int .i64 xs.length) ∧ w = w' := by
  obtain ⟨A, c, rfl⟩ := Kd.R_slice h.2.2
  have hc := (blk_cell h.1 0).trans rfl
  go_enter Try.func21, Try.ntmps21
  go_wp2_with fail
  go_ret
  exact ⟨rfl, rfl⟩
theorem rLen_any (g : Nat) (v : Value) (xs : List ByteArray) (w0 w : World) (h : Bg 45 w0 w g v xs) :
    Calls Try.prog 10 #[.pointer (some ⟨g, 0, none⟩)] w fun e w' => e = .returned (.int .i64 xs.length) ∧ w = w' := by
  obtain ⟨A, c, rfl⟩ := Kd.R_slice h.2.2
  have hc := (blk_cell h.1 0).trans rfl
  go_enter Try.func10, Try.ntmps10
  go_wp2_with fail
  go_ret
  exact ⟨rfl, rfl⟩
theorem rLook_no (g : Nat) (v : Value) (xs : List ByteArray) (i : Int) (w0 w : World) (h : Bg 45 w0 w g v xs) (hi : i < 0 ∨ (xs.length : Int) ≤ i) :
    Calls Try.prog 20 #[.pointer (some ⟨g, 0, none⟩), .int .i64 i] w fun e w' => e = .returned (.tuple #[.string ⟨#[]⟩, .bool false]) ∧ Below w.heap.size w w' := by
  have HB := Below.refl w.heap.size w
  obtain ⟨A, c, rfl⟩ := Kd.R_slice h.2.2
  have hc := (blk_cell h.1 0).trans rfl
  by_cases h0 : i < 0
  · have d1 : decide (i < 0) = true := by simp; omega
    go_enter Try.func20, Try.ntmps20
    go_wp2_with fail
    go_ret2
    all_goals exact ⟨rfl, by first | exact HB | exact HB.drew⟩
  · have d1 : decide (i < 0) = false := by simp; omega
    have d2 : decide (i ≥ (xs.length : Int)) = true := by simp; omega
    go_enter Try.func20, Try.ntmps20
    go_wp2_with fail
    go_ret2
    all_goals exact ⟨rfl, by first | exact HB | exact HB.drew⟩
theorem rLook_yes (g : Nat) (v : Value) (xs : List ByteArray) (i : Nat) (x : ByteArray) (w0 w : World) (h : Bg 45 w0 w g v xs) (hx : xs[i]? = some x) :
    Calls Try.prog 20 #[.pointer (some ⟨g, 0, none⟩), .int .i64 i] w fun e w' => e = .returned (.tuple #[.string x, .bool true]) ∧ Below w.heap.size w w' := by
  have HB := Below.refl w.heap.size w
  obtain ⟨A, c, rfl⟩ := Kd.R_slice h.2.2
  obtain ⟨b, rfl, hx, n0, n1⟩ := elem_at h i hx
  have hc := (blk_cell h.1 0).trans rfl
  have d1 : decide ((i : Int) < 0) = false := by simp
  have d2 : decide ((i : Int) ≥ (xs.length : Int)) = false := by simp; omega
  have e1 : (i : Int).toNat = i := Int.toNat_natCast i
  go_enter Try.func20, Try.ntmps20
  go_wp2_with fail
  go_ret2
  all_goals exact ⟨rfl, by first | exact HB | exact HB.drew⟩
theorem Look_no (g : Nat) (v : Value) (xs : List ByteArray) (i : Int) (w0 w : World) (h : Bg 43 w0 w g v xs) (hi : i < 0 ∨ (xs.length : Int) ≤ i) :
    Calls Try.prog 19 #[.pointer (some ⟨g, 0, none⟩), .int .i64 i] w fun e w' => e = .returned (.tuple #[.string ⟨#[]⟩, .bool false]) ∧ Below w.heap.size w w' := by
  have HB := below_alloc (Below.refl w.heap.size w) (.cells #[.string ⟨#[]⟩] 9)
  have h1 := Bg.below h HB
  have hO : (w.alloc (.cells #[.string ⟨#[]⟩] 9)).heap[w.heap.size]? = some (.cells #[.string ⟨#[]⟩] 9 (0, 0)) := heap_alloc_new w _
  have hcO := (blk_cell hO 0).trans rfl
  go_enter Try.func19, Try.ntmps19
  go_wp2_with (go_at_call 23; refine (with_no _ g v xs i w0 _ h1 hi).mono ?_; rintro e w2 ⟨rfl, rfl⟩)
  refine bodyPost_ret (v := .tuple #[.string ⟨#[]⟩, .bool false]) ?_ rfl ⟨rfl, HB⟩
  rw [results_cell_tmp rfl]
  go_simp
theorem Look_yes (g : Nat) (v : Value) (xs : List ByteArray) (i : Nat) (x : ByteArray) (w0 w : World) (h : Bg 43 w0 w g v xs) (hB : Below w0.heap.size w0 w) (hx : xs[i]? = some x) :
    Calls Try.prog 19 #[.pointer (some ⟨g, 0, none⟩), .int .i64 i] w fun e w' => e = .returned (.tuple #[.string x, .bool true]) ∧ Below w.heap.size w w' := by
  have HB := below_alloc (Below.refl w.heap.size w) (.cells #[.string ⟨#[]⟩] 9)
  have h1 := Bg.below h HB
  have hO : (w.alloc (.cells #[.string ⟨#[]⟩] 9)).heap[w.heap.size]? = some (.cells #[.string ⟨#[]⟩] 9 (0, 0)) := heap_alloc_new w _
  have hB1 : Below w0.heap.size w0 (w.alloc (.cells #[.string ⟨#[]⟩] 9)) := below_alloc hB _
  go_enter Try.func19, Try.ntmps19
  go_wp2_with (go_at_call 23; refine (with_yes27 w.heap.size g v xs i x w0 _ h1 hx true _ (look1 x ⟨#[]⟩ w.heap.size w0 _ hB1 hB.size hO)).mono ?_; rintro e w2 ⟨rfl, hO2, hB2, hG2⟩)
  have hcO := (blk_cell hO2 0).trans rfl
  refine bodyPost_ret (v := .tuple #[.string x, .bool true]) ?_ rfl ⟨rfl, pw_below_grown HB _ HB.size hG2 (by intro k hk; injection hk with hk; omega)⟩
  rw [results_cell_tmp rfl]
  go_simp
theorem szA (w : World) (o : Obj) : (w.alloc o).heap.size = w.heap.size + 1 := by first | simp | (unfold World.alloc; simp)
/-- the boxes of b and i -/
theorem boxes (w : World) (g : Nat) (i : Int) : ∀ W, W = ((w.alloc (.cells #[.pointer (some ⟨g, 0, none⟩)] 24)).alloc (.cells #[.int .i64 i] 3)) → W.heap[w.heap.size]? = some (.cells #[.pointer (some ⟨g, 0, none⟩)] 24 (0, 0)) ∧ W.heap[w.heap.size + 1]? = some (.cells #[.int .i64 i] 3 (0, 0)) ∧ Below w.heap.size w W ∧ W.heap.size = w.heap.size + 2 := by
  rintro W rfl
  refine ⟨?_, ?_, below_alloc (below_alloc (Below.refl _ _) _) _, by rw [szA, szA]⟩
  · exact blk_alloc (heap_alloc_new w _) _
  · have := heap_alloc_new (w.alloc (.cells #[.pointer (some ⟨g, 0, none⟩)] 24)) (.cells #[.int .i64 i] 3)
    rwa [szA] at this
/-- what an operation on a bag does, told behind new blocks -/
theorem Does.of {t : Nat} {w0 w w1 w2 : World} {g : Nat} {v v' : Value} {xs' : List ByteArray} (hB1 : Below w.heap.size w w1) (h : Bg t w0 w2 g v' xs') (ho : Owns w.heap.size v v') (hB : Below w0.heap.size w0 w2) (hs : w1.heap.size ≤ w2.heap.size) (hk : ∀ k, k < w.heap.size → k ≠ g → some k ≠ v.ownBlock → w2.heap[k]? = w1.heap[k]?) : Does t w0 w w2 g v xs' :=
  ⟨⟨v', h, ho⟩, hB, Nat.le_trans hB1.size hs, fun k hk1 hkg hkv => (hk k hk1 hkg hkv).trans (hB1.block k hk1)⟩
theorem Does.same {t : Nat} {w0 w w1 : World} {g : Nat} {v : Value} {xs : List ByteArray} (h : Bg t w0 w g v xs) (hB : Below w0.heap.size w0 w) (hB1 : Below w.heap.size w w1) : Does t w0 w w1 g v xs :=
  ⟨⟨v, Bg.below h hB1, Owns.same _ rfl⟩, hB.trans (hB1.mono hB.size), hB1.size, fun k hk _ _ => hB1.block k hk⟩
theorem Drop_no (g : Nat) (v : Value) (xs : List ByteArray) (i : Int) (w0 w : World) (h : Bg 43 w0 w g v xs) (hB : Below w0.heap.size w0 w) (hi : i < 0 ∨ (xs.length : Int) ≤ i) :
    Calls Try.prog 17 #[.pointer (some ⟨g, 0, none⟩), .int .i64 i] w fun e w' => e = .returned (.bool false) ∧ Does 43 w0 w w' g v xs := by
  obtain ⟨hp, hq, HB, hsz⟩ := boxes w g i _ rfl
  have h1 := Bg.below h HB
  have hcp := (blk_cell hp 0).trans rfl
  have hcq := (blk_cell hq 0).trans rfl
  go_enter Try.func17, Try.ntmps17
  go_wp2_with (go_at_call 23; refine (with_no _ g v xs i w0 _ h1 hi).mono ?_; rintro e w2 ⟨rfl, rfl⟩)
  go_ret
  exact ⟨rfl, Does.same h hB HB⟩
theorem Drop_yes (g : Nat) (v : Value) (xs : List ByteArray) (i : Nat) (x : ByteArray) (w0 w : World) (h : Bg 43 w0 w g v xs) (hB : Below w0.heap.size w0 w) (hx : xs[i]? = some x) :
    Calls Try.prog 17 #[.pointer (some ⟨g, 0, none⟩), .int .i64 i] w fun e w' => e = .returned (.bool true) ∧ Does 43 w0 w w' g v (xs.eraseIdx i) := by
  have hi : i < xs.length := by rw [List.getElem?_eq_some_iff] at hx; exact hx.1
  obtain ⟨hp, hq, HB, hsz⟩ := boxes w g i _ rfl
  have h1 := Bg.below h HB
  have hB1 := hB.trans (HB.mono hB.size)
  have hcp := (blk_cell hp 0).trans rfl
  have hcq := (blk_cell hq 0).trans rfl
  have hd := drop1 x w.heap.size (w.heap.size + 1) g i v xs w0 _ hB1 hp hq h1 hi
  go_enter Try.func17, Try.ntmps17
  go_wp2_with (go_at_call 23; refine (with_yes26 w.heap.size (w.heap.size + 1) g v xs i x w0 _ h1 hx true _ hd).mono ?_; rintro e w2 ⟨rfl, ⟨v', h2, ho2⟩, hB2, hs2, hk2⟩)
  go_ret
  exact ⟨rfl, Does.of HB h2 (Owns.same _ ho2) hB2 hs2 (fun k hk hkg hkv => hk2 k (by omega) hkg hkv)⟩
theorem Take_no (g : Nat) (v : Value) (xs : List ByteArray) (i : Int) (w0 w : World) (h : Bg 43 w0 w g v xs) (hB : Below w0.heap.size w0 w) (hi : i < 0 ∨ (xs.length : Int) ≤ i) :
    Calls Try.prog 13 #[.pointer (some ⟨g, 0, none⟩), .int .i64 i] w fun e w' => e = .returned (.tuple #[.string ⟨#[]⟩, .bool false]) ∧ Does 43 w0 w w' g v xs := by
  obtain ⟨hp, hq, HB, hsz⟩ := boxes w g i _ rfl
  have HB2 := below_alloc HB (.cells #[.string ⟨#[]⟩] 9)
  have h1 := Bg.below h HB2
  have hO := heap_alloc_new ((w.alloc (.cells #[.pointer (some ⟨g, 0, none⟩)] 24)).alloc (.cells #[.int .i64 i] 3)) (.cells #[.string ⟨#[]⟩] 9)
  rw [hsz] at hO
  have hcp := (blk_cell (blk_alloc hp (.cells #[.string ⟨#[]⟩] 9)) 0).trans rfl
  have hcq := (blk_cell (blk_alloc hq (.cells #[.string ⟨#[]⟩] 9)) 0).trans rfl
  have hcO := (blk_cell hO 0).trans rfl
  go_enter Try.func13, Try.ntmps13
  go_wp2_with (go_at_call 23; refine (with_no _ g v xs i w0 _ h1 hi).mono ?_; rintro e w2 ⟨rfl, rfl⟩)
  refine bodyPost_ret (v := .tuple #[.string ⟨#[]⟩, .bool false]) ?_ rfl ⟨rfl, Does.same h hB HB2⟩
  rw [results_cell_tmp rfl]
  go_simp
theorem Take_yes (g : Nat) (v : Value) (xs : List ByteArray) (i : Nat) (x : ByteArray) (w0 w : World) (h : Bg 43 w0 w g v xs) (hB : Below w0.heap.size w0 w) (hx : xs[i]? = some x) :
    Calls Try.prog 13 #[.pointer (some ⟨g, 0, none⟩), .int .i64 i] w fun e w' => e = .returned (.tuple #[.string x, .bool true]) ∧ Does 43 w0 w w' g v (xs.eraseIdx i) := by
  have hi : i < xs.length := by rw [List.getElem?_eq_some_iff] at hx; exact hx.1
  obtain ⟨hp, hq, HB, hsz⟩ := boxes w g i _ rfl
  have HB2 := below_alloc HB (.cells #[.string ⟨#[]⟩] 9)
  have h1 := Bg.below h HB2
  have hB1 := hB.trans (HB2.mono hB.size)
  have hO := heap_alloc_new ((w.alloc (.cells #[.pointer (some ⟨g, 0, none⟩)] 24)).alloc (.cells #[.int .i64 i] 3)) (.cells #[.string ⟨#[]⟩] 9)
  rw [hsz] at hO
  have hp1 := blk_alloc hp (.cells #[.string ⟨#[]⟩] 9)
  have hq1 := blk_alloc hq (.cells #[.string ⟨#[]⟩] 9)
  have hcp := (blk_cell hp1 0).trans rfl
  have hcq := (blk_cell hq1 0).trans rfl
  have hov : some (w.heap.size + 2) ≠ v.ownBlock := fun e => by have := Kd.R_lt h.2.2 _ e.symm; omega
  have hle := hB.size
  have hd := take1 x ⟨#[]⟩ (w.heap.size + 2) w.heap.size (w.heap.size + 1) g i v xs w0 _ hB1 (by omega) hO hp1 hq1 h1 hi hov
  go_enter Try.func13, Try.ntmps13
  go_wp2_with (go_at_call 23; refine (with_yes24 (w.heap.size + 2) w.heap.size (w.heap.size + 1) g v xs i x w0 _ h1 hx true _ hd).mono ?_; rintro e w2 ⟨rfl, hO2, ⟨v', h2, ho2⟩, hB2, hs2, hk2⟩)
  have hcO := (blk_cell hO2 0).trans rfl
  refine bodyPost_ret (v := .tuple #[.string x, .bool true]) ?_ rfl ⟨rfl, Does.of HB2 h2 (Owns.same _ ho2) hB2 hs2 (fun k hk hkg hkv => hk2 k (by rw [szA, hsz]; omega) hkg (by omega) hkv)⟩
  rw [results_cell_tmp rfl]
  go_simp
theorem Copy_no (g : Nat) (v : Value) (xs : List ByteArray) (i : Int) (w0 w : World) (h : Bg 43 w0 w g v xs) (hB : Below w0.heap.size w0 w) (hi : i < 0 ∨ (xs.length : Int) ≤ i) :
    Calls Try.prog 15 #[.pointer (some ⟨g, 0, none⟩), .int .i64 i] w fun e w' => e = .returned (.bool false) ∧ Does 43 w0 w w' g v xs := by
  go_enter Try.func15, Try.ntmps15
  go_wp2_with (go_at_call 23; refine (with_no _ g v xs i w0 _ h hi).mono ?_; rintro e w2 ⟨rfl, rfl⟩)
  go_ret
  exact ⟨rfl, Does.same h hB (Below.refl _ _)⟩
theorem Copy_yes (g : Nat) (v : Value) (xs : List ByteArray) (i : Nat) (x : ByteArray) (w0 w : World) (h : Bg 43 w0 w g v xs) (hB : Below w0.heap.size w0 w) (hx : xs[i]? = some x) (r : Bool) (ys : List ByteArray)
    (hs : Calls Try.prog 11 #[.pointer (some ⟨g, 0, none⟩), .string x] w fun e w' => e = .returned (.bool r) ∧ Does 43 w0 w w' g v ys) :
    Calls Try.prog 15 #[.pointer (some ⟨g, 0, none⟩), .int .i64 i] w fun e w' => e = .returned (.bool r) ∧ Does 43 w0 w w' g v ys := by
  go_enter Try.func15, Try.ntmps15
  go_wp2_with (go_at_call 23; refine (with_yes11 g v xs i x w0 _ h hx r _ hs).mono ?_; rintro e w2 ⟨rfl, hd⟩)
  go_ret
  exact ⟨rfl, hd⟩
/-- Send, both ways at once -/
def sent (xs : List ByteArray) (s : ByteArray) : List ByteArray := if xs.length < 64 then xs ++ [s] else xs
theorem Send_any (g : Nat) (v : Value) (xs : List ByteArray) (s : ByteArray) (w0 w : World) (h : Bg 43 w0 w g v xs) (hB : Below w0.heap.size w0 w) :
    Calls Try.prog 11 #[.pointer (some ⟨g, 0, none⟩), .string s] w fun e w' => e = .returned (.bool (decide (xs.length < 64))) ∧ Does 43 w0 w w' g v (sent xs s) := by
  unfold sent
  by_cases hl : xs.length < 64
  · rw [if_pos hl, decide_eq_true hl]
    refine (Send_room g v xs s w0 w h hB hl).mono ?_
    rintro e w' ⟨rfl, ⟨v', hv, ho⟩, hB', hk⟩
    exact ⟨rfl, ⟨v', hv, Owns.of ho⟩, hB', hk⟩
  · rw [if_neg hl, decide_eq_false hl]
    refine (Send_full g v xs s w0 w h hB (by omega)).mono ?_
    rintro e w' ⟨rfl, hb, hB', hk⟩
    exact ⟨rfl, ⟨v, hb, Owns.same _ rfl⟩, hB', hk⟩
theorem rSend_any (g : Nat) (v : Value) (xs : List ByteArray) (s : ByteArray) (w0 w : World) (h : Bg 45 w0 w g v xs) (hB : Below w0.heap.size w0 w) :
    Calls Try.prog 12 #[.pointer (some ⟨g, 0, none⟩), .string s] w fun e w' => e = .returned (.bool (decide (xs.length < 64))) ∧ Does 45 w0 w w' g v (sent xs s) := by
  unfold sent
  by_cases hl : xs.length < 64
  · rw [if_pos hl, decide_eq_true hl]
    refine (rSend_room g v xs s w0 w h hB hl).mono ?_
    rintro e w' ⟨rfl, ⟨v', hv, ho⟩, hB', hk⟩
    exact ⟨rfl, ⟨v', hv, Owns.of ho⟩, hB', hk⟩
  · rw [if_neg hl, decide_eq_false hl]
    refine (rSend_full g v xs s w0 w h hB (by omega)).mono ?_
    rintro e w' ⟨rfl, hb, hB', hk⟩
    exact ⟨rfl, ⟨v, hb, Owns.same _ rfl⟩, hB', hk⟩
end Go.Proofs.Ytoiilcljdepdaaa.Bg
