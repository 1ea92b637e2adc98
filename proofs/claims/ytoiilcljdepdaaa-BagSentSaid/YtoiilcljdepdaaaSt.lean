/- BagSent's state: a bag of five texts, and the counts. -/
import Derived.Test.YtoiilcljdepdaaaKd
namespace Go.Proofs.Ytoiilcljdepdaaa.Bg
set_option linter.unusedVariables false
set_option linter.unusedSimpArgs false
open Go.RowKit Go.Proofs.YtoiilcljdepdaaaW.PrintWords Go.Proofs.YtoiilcljdepdaaaW.PrintLast Go.Proofs.YtoiilcljdepdaaaW.PrintMore Go.Proofs.Ytoiilcljdepdaaa.PBagPlays
attribute [local go_sem] max2_int min2_int max_two min_two max_three min_three max_four min_four
/-- the five texts -/
def tx : Nat → ByteArray
  | 0 => ⟨#[97]⟩
  | 1 => ⟨#[98]⟩
  | 2 => ⟨#[99]⟩
  | 3 => ⟨#[100]⟩
  | _ => ⟨#[101]⟩
theorem tx_inj {j k : Nat} (hj : j < 5) (hk : k < 5) (h : (tx j).toList = (tx k).toList) : j = k := by
  have : ∀ j < 5, ∀ k < 5, (tx j).toList = (tx k).toList → j = k := by decide +kernel
  exact this j hj k hk h
def UU (u : Nat → Int) : Array Value := #[.int .i64 (u 0), .int .i64 (u 1), .int .i64 (u 2), .int .i64 (u 3), .int .i64 (u 4)]
def upd (u : Nat → Int) (k : Nat) (n : Int) : Nat → Int := fun j => if j = k then u j + n else u j
theorem UU_get (u : Nat → Int) (k : Nat) (hk : k < 5) : (UU u)[k]? = some (.int .i64 (u k)) := by
  rcases (show k = 0 ∨ k = 1 ∨ k = 2 ∨ k = 3 ∨ k = 4 from by omega) with h | h | h | h | h <;> subst h <;> rfl
theorem UU_set (u : Nat → Int) (k : Nat) (hk : k < 5) (n : Int) : (UU u).setIfInBounds k (.int .i64 (u k + n)) = UU (upd u k n) := by
  rcases (show k = 0 ∨ k = 1 ∨ k = 2 ∨ k = 3 ∨ k = 4 from by omega) with h | h | h | h | h <;> subst h <;> simp [UU, upd]
def TT : Array Value := #[.string (tx 0), .string (tx 1), .string (tx 2), .string (tx 3), .string (tx 4)]
theorem TT_get (k : Nat) (hk : k < 5) : TT[k]? = some (.string (tx k)) := by
  rcases (show k = 0 ∨ k = 1 ∨ k = 2 ∨ k = 3 ∨ k = 4 from by omega) with h | h | h | h | h <;> subst h <;> rfl
theorem count_any (u : Nat → Int) (al : Int) (k : Nat) (n : Int) (bt b5 ba bl : Nat) (w0 w : World) (hk : k < 5) (hu : -1000 ≤ u k ∧ u k ≤ 1000) (hal : -1000 ≤ al ∧ al ≤ 1000) (hn : -1 ≤ n ∧ n ≤ 1)
    (ht : w.heap[bt]? = some (.cells #[.slice (some ⟨b5, 0, none⟩) 5 5] 37 (0, 0))) (h5 : w.heap[b5]? = some (.cells TT 9 (0, 0))) (ha : w.heap[ba]? = some (.cells (UU u) 38 (0, 0))) (hl : w.heap[bl]? = some (.cells #[.int .i64 al] 3 (0, 0)))
    (hB : Below w0.heap.size w0 w) (hba : w0.heap.size ≤ ba) (hbl : w0.heap.size ≤ bl) :
    Calls Try.prog 22 #[.string (tx k), .int .i64 n, .pointer (some ⟨bt, 0, none⟩), .pointer (some ⟨ba, 0, none⟩), .pointer (some ⟨bl, 0, none⟩)] w fun e w' => e = .returned (.bool (decide (u k + n ≥ 0))) ∧
      w'.heap[ba]? = some (.cells (UU (upd u k n)) 38 (0, 0)) ∧ w'.heap[bl]? = some (.cells #[.int .i64 (al + n)] 3 (0, 0)) ∧ Below w0.heap.size w0 w' ∧ w.heap.size ≤ w'.heap.size ∧ (∀ i, i < w.heap.size → i ≠ ba → i ≠ bl → w'.heap[i]? = w.heap[i]?) := by
  have hab : ba ≠ bl := by rintro rfl; rw [ha] at hl; simp at hl
  have hct := (blk_cell ht 0).trans rfl
  have hcl := (blk_cell hl 0).trans rfl
  have hfl := blk_frozen hl 0
  have hca := (blk_cell ha k).trans (UU_get u k hk)
  have hfa := blk_frozen ha k
  have hq1 : IntKind.i64.wrap (u k + n) = u k + n := IntWalk.i64_in _ (by omega)
  have hq2 : IntKind.i64.wrap (al + n) = al + n := IntWalk.i64_in _ (by omega)
  generalize hx : tx k = s
  go_enter Try.func22, Try.ntmps22
  go_wp2_with fail
  go_loopg [8] 5 (fun kq v8 w' => ∃ j : Nat, v8 = .int .i64 (j : Int) ∧ j + kq = 5 ∧ j ≤ k ∧ w = w')
  case atStart => exact ⟨0, rfl, rfl, by omega, rfl⟩
  case round =>
    obtain ⟨j, rfl, hjk, hjle, rfl⟩ := hrel
    obtain ⟨m, rfl⟩ : ∃ m, gk = m + 1 := ⟨gk - 1, by omega⟩
    have p1 : (0 : Int) ≤ (j : Int) := by omega
    have q1 : (j : Int) < 5 := by omega
    have e1 : (j : Int).toNat = j := Int.toNat_natCast j
    have hcj := (blk_cell h5 j).trans (TT_get j (by omega))
    by_cases hj : j = k
    · subst hj
      rw [hx] at hcj
      have hal2 : w.cell? ⟨bl, 0, none⟩ = some (.int .i64 al) := hcl
      go_wp2_with fail
      go_ret
      refine ⟨rfl, ?_, ?_, ?_, ?_, fun i hi h1 h2 => ?_⟩
      · exact blk_far (p := ⟨bl, 0, none⟩) (blk_put ha j _ (by simpa using UU_set u j hk n)) hab _
      · exact blk_put (blk_far (p := ⟨ba, j, none⟩) hl (fun e => hab e.symm) _) 0 _ rfl
      · exact (hB.setCell (p := ⟨ba, j, none⟩) hba _).setCell (p := ⟨bl, 0, none⟩) hbl _
      · simp [World.setCell]
      · exact (Below.heap_setCell _ ⟨bl, 0, none⟩ _ i h2).trans (Below.heap_setCell _ ⟨ba, j, none⟩ _ i h1)
    · have hne : ((tx j).toList == s.toList) = false := by rw [beq_eq_false_iff_ne, ← hx]; exact fun e => hj (tx_inj (by omega) hk e)
      go_wp2_with fail
      go_roundg m
      case measure => omega
      case rel => exact ⟨j + 1, by rw [Int.natCast_add]; rfl, by omega, by omega, rfl⟩
/-- BagSent's memory: the bag holds the texts ks, the counts are u, their sum al -/
def St (w0 W : World) (g bt b5 ba bl : Nat) (ks : List Nat) (u : Nat → Int) (al : Int) : Prop :=
  (∃ v, Bg 43 w0 W g v (ks.map tx) ∧ v.ownBlock ≠ some b5) ∧ W.heap[bt]? = some (.cells #[.slice (some ⟨b5, 0, none⟩) 5 5] 37 (0, 0)) ∧ W.heap[b5]? = some (.cells TT 9 (0, 0)) ∧ W.heap[ba]? = some (.cells (UU u) 38 (0, 0)) ∧ W.heap[bl]? = some (.cells #[.int .i64 al] 3 (0, 0)) ∧
    Below w0.heap.size w0 W ∧ w0.heap.size ≤ ba ∧ w0.heap.size ≤ bl
variable {w0 w w' W W' : World} {g bt b5 ba bl : Nat} {ks ks' : List Nat} {u : Nat → Int} {al : Int} {v : Value}
theorem St.below (h : St w0 W g bt b5 ba bl ks u al) (hb : Below W.heap.size W W') : St w0 W' g bt b5 ba bl ks u al := by
  obtain ⟨⟨v, hv, hn⟩, h1, h2, h3, h4, h5, h6, h7⟩ := h
  have k : ∀ {o : Nat} {b : Obj}, W.heap[o]? = some b → W'.heap[o]? = some b := fun {o b} ho => (hb.block o (blk_lt ho)).trans ho
  exact ⟨⟨v, Bg.below hv hb, hn⟩, k h1, k h2, k h3, k h4, h5.trans (hb.mono h5.size), h6, h7⟩
theorem St.does (hv : Bg 43 w0 w g v (ks.map tx)) (hn : v.ownBlock ≠ some b5) (h1 : w.heap[bt]? = some (.cells #[.slice (some ⟨b5, 0, none⟩) 5 5] 37 (0, 0))) (h2 : w.heap[b5]? = some (.cells TT 9 (0, 0))) (h3 : w.heap[ba]? = some (.cells (UU u) 38 (0, 0))) (h4 : w.heap[bl]? = some (.cells #[.int .i64 al] 3 (0, 0)))
    (h6 : w0.heap.size ≤ ba) (h7 : w0.heap.size ≤ bl) (hd : Does 43 w0 w w' g v (ks'.map tx)) : St w0 w' g bt b5 ba bl ks' u al := by
  have kt := Does.keepT hv (.inl rfl) hd
  obtain ⟨⟨v', hv', ho⟩, hB, hs, hk⟩ := hd
  refine ⟨⟨v', hv', fun e => ?_⟩, kt _ _ _ _ (by decide) (by decide) (by decide) h1, ?_, kt _ _ _ _ (by decide) (by decide) (by decide) h3, kt _ _ _ _ (by decide) (by decide) (by decide) h4, hB, h6, h7⟩
  · rcases ho b5 e with e | e
    · exact hn e
    · have := blk_lt h2; omega
  · refine (hk b5 (blk_lt h2) ?_ (fun e => hn e.symm)).trans h2
    rintro rfl
    have := hv.1; rw [h2] at this; injection this with this; injection this with _ this; exact absurd this (by decide)
def sentK (ks : List Nat) (k : Nat) : List Nat := if ks.length < 64 then ks ++ [k] else ks
theorem sent_map (ks : List Nat) (k : Nat) : sent (ks.map tx) (tx k) = (sentK ks k).map tx := by
  unfold sent sentK; rw [List.length_map]; split
  · simp
  · rfl
theorem look_map (ks : List Nat) (n : Nat) (hn : n < ks.length) : lookS (ks.map tx) (n : Int) = tx (ks.getD n 0) ∧ lookB (ks.map tx) (n : Int) = true ∧ rmL (ks.map tx) (n : Int) = (ks.eraseIdx n).map tx ∧ cpB (ks.map tx) (n : Int) = decide (ks.length < 64) ∧ cpL (ks.map tx) (n : Int) = (sentK ks (ks.getD n 0)).map tx := by
  have hv : 0 ≤ (n : Int) ∧ (n : Int) < (ks.map tx).length := by rw [List.length_map]; omega
  have e1 : lookS (ks.map tx) (n : Int) = tx (ks.getD n 0) := by
    unfold lookS; rw [if_pos hv, Int.toNat_natCast, List.getD_eq_getElem?_getD, List.getD_eq_getElem?_getD, List.getElem?_map, List.getElem?_eq_getElem hn]; rfl
  have e2 : lookB (ks.map tx) (n : Int) = true := by unfold lookB; exact decide_eq_true hv
  refine ⟨e1, e2, ?_, ?_, ?_⟩
  · unfold rmL; rw [if_pos hv, Int.toNat_natCast, List.eraseIdx_eq_take_drop_succ, List.eraseIdx_eq_take_drop_succ]; simp
  · unfold cpB; rw [e2, List.length_map, Bool.true_and]
  · unfold cpL; rw [if_pos hv, e1, sent_map]
theorem look_none (ks : List Nat) (i : Int) (hi : ¬ (0 ≤ i ∧ i < ks.length)) : lookS (ks.map tx) i = ⟨#[]⟩ ∧ lookB (ks.map tx) i = false ∧ rmL (ks.map tx) i = ks.map tx ∧ cpB (ks.map tx) i = false ∧ cpL (ks.map tx) i = ks.map tx := by
  have hv : ¬ (0 ≤ i ∧ i < (ks.map tx).length) := by rw [List.length_map]; omega
  have e2 : lookB (ks.map tx) i = false := by unfold lookB; exact decide_eq_false hv
  exact ⟨by unfold lookS; rw [if_neg hv], e2, by unfold rmL; rw [if_neg hv], by unfold cpB; rw [e2]; rfl, by unfold cpL; rw [if_neg hv]⟩
theorem Send_s (k : Nat) (h : St w0 w g bt b5 ba bl ks u al) : Calls Try.prog 11 #[.pointer (some ⟨g, 0, none⟩), .string (tx k)] w fun e w' => e = .returned (.bool (decide (ks.length < 64))) ∧ St w0 w' g bt b5 ba bl (sentK ks k) u al := by
  obtain ⟨⟨v, hv, hn⟩, h1, h2, h3, h4, h5, h6, h7⟩ := h
  refine (Send_any g v _ (tx k) w0 w hv h5).mono ?_
  rintro e w' ⟨rfl, hd⟩
  rw [sent_map] at hd
  exact ⟨by rw [List.length_map], St.does hv hn h1 h2 h3 h4 h6 h7 hd⟩
theorem Take_s (n : Nat) (hl : n < ks.length) (h : St w0 w g bt b5 ba bl ks u al) : Calls Try.prog 13 #[.pointer (some ⟨g, 0, none⟩), .int .i64 n] w fun e w' => e = .returned (.tuple #[.string (tx (ks.getD n 0)), .bool true]) ∧ St w0 w' g bt b5 ba bl (ks.eraseIdx n) u al := by
  obtain ⟨⟨v, hv, hn⟩, h1, h2, h3, h4, h5, h6, h7⟩ := h
  obtain ⟨e1, e2, e3, e4, e5⟩ := look_map ks n hl
  refine (Take_any g v _ n w0 w hv h5).mono ?_
  rintro e w' ⟨rfl, hd⟩
  rw [e3] at hd
  exact ⟨by rw [e1, e2], St.does hv hn h1 h2 h3 h4 h6 h7 hd⟩
theorem Take_n (i : Int) (hi : ¬ (0 ≤ i ∧ i < ks.length)) (h : St w0 w g bt b5 ba bl ks u al) : Calls Try.prog 13 #[.pointer (some ⟨g, 0, none⟩), .int .i64 i] w fun e w' => e = .returned (.tuple #[.string ⟨#[]⟩, .bool false]) ∧ St w0 w' g bt b5 ba bl ks u al := by
  obtain ⟨⟨v, hv, hn⟩, h1, h2, h3, h4, h5, h6, h7⟩ := h
  obtain ⟨e1, e2, e3, e4, e5⟩ := look_none ks i hi
  refine (Take_any g v _ i w0 w hv h5).mono ?_
  rintro e w' ⟨rfl, hd⟩
  rw [e3] at hd
  exact ⟨by rw [e1, e2], St.does hv hn h1 h2 h3 h4 h6 h7 hd⟩
theorem Drop_s (n : Nat) (hl : n < ks.length) (h : St w0 w g bt b5 ba bl ks u al) : Calls Try.prog 17 #[.pointer (some ⟨g, 0, none⟩), .int .i64 n] w fun e w' => e = .returned (.bool true) ∧ St w0 w' g bt b5 ba bl (ks.eraseIdx n) u al := by
  obtain ⟨⟨v, hv, hn⟩, h1, h2, h3, h4, h5, h6, h7⟩ := h
  obtain ⟨e1, e2, e3, e4, e5⟩ := look_map ks n hl
  refine (Drop_any g v _ n w0 w hv h5).mono ?_
  rintro e w' ⟨rfl, hd⟩
  rw [e3] at hd
  exact ⟨by rw [e2], St.does hv hn h1 h2 h3 h4 h6 h7 hd⟩
theorem Drop_n (i : Int) (hi : ¬ (0 ≤ i ∧ i < ks.length)) (h : St w0 w g bt b5 ba bl ks u al) : Calls Try.prog 17 #[.pointer (some ⟨g, 0, none⟩), .int .i64 i] w fun e w' => e = .returned (.bool false) ∧ St w0 w' g bt b5 ba bl ks u al := by
  obtain ⟨⟨v, hv, hn⟩, h1, h2, h3, h4, h5, h6, h7⟩ := h
  obtain ⟨e1, e2, e3, e4, e5⟩ := look_none ks i hi
  refine (Drop_any g v _ i w0 w hv h5).mono ?_
  rintro e w' ⟨rfl, hd⟩
  rw [e3] at hd
  exact ⟨by rw [e2], St.does hv hn h1 h2 h3 h4 h6 h7 hd⟩
theorem Copy_s (n : Nat) (hl : n < ks.length) (h : St w0 w g bt b5 ba bl ks u al) : Calls Try.prog 15 #[.pointer (some ⟨g, 0, none⟩), .int .i64 n] w fun e w' => e = .returned (.bool (decide (ks.length < 64))) ∧ St w0 w' g bt b5 ba bl (sentK ks (ks.getD n 0)) u al := by
  obtain ⟨⟨v, hv, hn⟩, h1, h2, h3, h4, h5, h6, h7⟩ := h
  obtain ⟨e1, e2, e3, e4, e5⟩ := look_map ks n hl
  refine (Copy_any g v _ n w0 w hv h5).mono ?_
  rintro e w' ⟨rfl, hd⟩
  rw [e5] at hd
  exact ⟨by rw [e4], St.does hv hn h1 h2 h3 h4 h6 h7 hd⟩
theorem Copy_n (i : Int) (hi : ¬ (0 ≤ i ∧ i < ks.length)) (h : St w0 w g bt b5 ba bl ks u al) : Calls Try.prog 15 #[.pointer (some ⟨g, 0, none⟩), .int .i64 i] w fun e w' => e = .returned (.bool false) ∧ St w0 w' g bt b5 ba bl ks u al := by
  obtain ⟨⟨v, hv, hn⟩, h1, h2, h3, h4, h5, h6, h7⟩ := h
  obtain ⟨e1, e2, e3, e4, e5⟩ := look_none ks i hi
  refine (Copy_any g v _ i w0 w hv h5).mono ?_
  rintro e w' ⟨rfl, hd⟩
  rw [e5] at hd
  exact ⟨by rw [e4], St.does hv hn h1 h2 h3 h4 h6 h7 hd⟩
theorem Look_s (n : Nat) (hl : n < ks.length) (h : St w0 w g bt b5 ba bl ks u al) : Calls Try.prog 19 #[.pointer (some ⟨g, 0, none⟩), .int .i64 n] w fun e w' => e = .returned (.tuple #[.string (tx (ks.getD n 0)), .bool true]) ∧ St w0 w' g bt b5 ba bl ks u al := by
  have hh := h
  obtain ⟨⟨v, hv, hn⟩, h1, h2, h3, h4, h5, h6, h7⟩ := h
  obtain ⟨e1, e2, e3, e4, e5⟩ := look_map ks n hl
  refine (Look_any g v _ n w0 w hv h5).mono ?_
  rintro e w' ⟨rfl, hb⟩
  exact ⟨by rw [e1, e2], hh.below hb⟩
theorem Look_n (i : Int) (hi : ¬ (0 ≤ i ∧ i < ks.length)) (h : St w0 w g bt b5 ba bl ks u al) : Calls Try.prog 19 #[.pointer (some ⟨g, 0, none⟩), .int .i64 i] w fun e w' => e = .returned (.tuple #[.string ⟨#[]⟩, .bool false]) ∧ St w0 w' g bt b5 ba bl ks u al := by
  have hh := h
  obtain ⟨⟨v, hv, hn⟩, h1, h2, h3, h4, h5, h6, h7⟩ := h
  obtain ⟨e1, e2, e3, e4, e5⟩ := look_none ks i hi
  refine (Look_any g v _ i w0 w hv h5).mono ?_
  rintro e w' ⟨rfl, hb⟩
  exact ⟨by rw [e1, e2], hh.below hb⟩
theorem Len_s (h : St w0 w g bt b5 ba bl ks u al) : Calls Try.prog 21 #[.pointer (some ⟨g, 0, none⟩)] w fun e w' => e = .returned (.int .i64 ks.length) ∧ w = w' := by
  obtain ⟨⟨v, hv, hn⟩, h1, h2, h3, h4, h5, h6, h7⟩ := h
  have := Len_any g v _ w0 w hv
  rw [List.length_map] at this
  exact this
theorem count_s (k : Nat) (n : Int) (hk : k < 5) (hu : -1000 ≤ u k ∧ u k ≤ 1000) (hal : -1000 ≤ al ∧ al ≤ 1000) (hn : -1 ≤ n ∧ n ≤ 1) (h : St w0 w g bt b5 ba bl ks u al) :
    Calls Try.prog 22 #[.string (tx k), .int .i64 n, .pointer (some ⟨bt, 0, none⟩), .pointer (some ⟨ba, 0, none⟩), .pointer (some ⟨bl, 0, none⟩)] w fun e w' => e = .returned (.bool (decide (u k + n ≥ 0))) ∧ St w0 w' g bt b5 ba bl ks (upd u k n) (al + n) := by
  obtain ⟨⟨v, hv, hno⟩, h1, h2, h3, h4, h5, h6, h7⟩ := h
  refine (count_any u al k n bt b5 ba bl w0 w hk hu hal hn h1 h2 h3 h4 h5 h6 h7).mono ?_
  rintro e w' ⟨rfl, k3, k4, hB, hs, hk⟩
  have n1 : bt ≠ ba := by rintro rfl; rw [h1] at h3; injection h3 with h3; injection h3 with _ h3; exact absurd h3 (by decide)
  have n2 : bt ≠ bl := by rintro rfl; rw [h1] at h4; injection h4 with h4; injection h4 with _ h4; exact absurd h4 (by decide)
  have n3 : b5 ≠ ba := by rintro rfl; rw [h2] at h3; injection h3 with h3; injection h3 with _ h3; exact absurd h3 (by decide)
  have n4 : b5 ≠ bl := by rintro rfl; rw [h2] at h4; injection h4 with h4; injection h4 with _ h4; exact absurd h4 (by decide)
  have n5 : g ≠ ba := by rintro rfl; have := hv.1; rw [h3] at this; injection this with this; injection this with _ this; exact absurd this (by decide)
  have n6 : g ≠ bl := by rintro rfl; have := hv.1; rw [h4] at this; injection this with this; injection this with _ this; exact absurd this (by decide)
  refine ⟨rfl, ⟨v, ⟨(hk g (blk_lt hv.1) n5 n6).trans hv.1, hv.2.1, ?_⟩, hno⟩, (hk bt (blk_lt h1) n1 n2).trans h1, (hk b5 (blk_lt h2) n3 n4).trans h2, k3, k4, hB, h6, h7⟩
  refine Kd.R_mono (Kd.R_step (Kd.R_tight2 rfl hv.2.2) (fun o ho hlt => hk o hlt ?_ ?_)) (fun o ho => ho.2)
  · rintro rfl
    obtain ⟨cells, hc⟩ := Kd.R_typed hv.2.2 _ ho.1.symm
    rw [hc] at h3; injection h3 with h3; injection h3 with _ h3; exact absurd h3 (by decide)
  · rintro rfl
    obtain ⟨cells, hc⟩ := Kd.R_typed hv.2.2 _ ho.1.symm
    rw [hc] at h4; injection h4 with h4; injection h4 with _ h4; exact absurd h4 (by decide)
end Go.Proofs.Ytoiilcljdepdaaa.Bg
