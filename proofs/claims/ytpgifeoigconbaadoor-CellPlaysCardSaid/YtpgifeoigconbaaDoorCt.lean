/- Cells of either kind between calls; messages as values (CellPlays). -/
import Derived.Test.YtpgifeoigconbaaDoorAw
import Derived.Test.YtpgifeoigconbaaDoorRy
import Derived.Test.YtpgifeoigconbaaDoorRp
import Derived.Test.YtpgifeoigconbaaDoorRn
namespace Go.Proofs.YtpgifeoigconbaaDoor.Cl
set_option linter.unusedVariables false
set_option linter.unusedSimpArgs false
open Go.RowKit Go.Proofs.YtpgifeoigconbaaDoorW.PrintWords Go.Proofs.YtpgifeoigconbaaDoorW.PrintLast Go.Proofs.YtpgifeoigconbaaDoor.Mo Go.Proofs.YtpgifeoigconbaaDoor.Q Go.Proofs.YtpgifeoigconbaaDoor.Rt
structure S31 where
  f0 : Int
  f1 : Int
  f2 : Int
  f3 : Int
  f4 : Int
  f5 : Int
  f6 : List S35
def z31 : S31 := ⟨0, 0, 0, 0, 0, 0, []⟩
def k31 : Kd S31 := Kd.iso (Kd.pair (Kd.int .i64) (Kd.pair (Kd.int .i64) (Kd.pair (Kd.int .i64) (Kd.pair (Kd.int .i64) (Kd.pair (Kd.int .i64) (Kd.pair (Kd.int .i64) (Kd.slice 35 k35))))))) (fun x : S31 => (x.f0, x.f1, x.f2, x.f3, x.f4, x.f5, x.f6))
theorem k31_open {w : World} {x : S31} {cs : List Value} (h : k31.K w x cs) : ∃ A c, cs = [.int .i64 x.f0, .int .i64 x.f1, .int .i64 x.f2, .int .i64 x.f3, .int .i64 x.f4, .int .i64 x.f5, .slice A x.f6.length c] ∧ x.f6.length ≤ c ∧ Kd.C k35 w A x.f6.length x.f6 := by
  obtain ⟨_, _, rfl, rfl, ⟨_, _, rfl, rfl, ⟨_, _, rfl, rfl, ⟨_, _, rfl, rfl, ⟨_, _, rfl, rfl, ⟨_, _, rfl, rfl, ⟨A, c, rfl, hc, hC⟩⟩⟩⟩⟩⟩⟩ := h
  exact ⟨A, c, rfl, hc, hC⟩
def rd31 (xs : List S31) (i : Nat) : S31 := xs.getD i z31
theorem rd31_mem {l : List S31} {i : Nat} (h : i < l.length) : rd31 l i ∈ l := by
  unfold rd31
  rw [List.getD_eq_getElem?_getD, List.getElem?_eq_getElem h]
  exact List.getElem_mem h
theorem at31 {w : World} {A : Option Addr} {n : Nat} {xs : List S31} (h : Kd.C k31 w A n xs) (i : Nat) (h1 : i < n) : ∃ (ad : Addr) (B : Option Addr) (c : Nat), A = some ad ∧ w.cell? (ad.add (i * 7)) = some (.int .i64 (rd31 xs i).f0) ∧ w.cell? ⟨(ad.add (i * 7)).block, (ad.add (i * 7)).off + 1, none⟩ = some (.int .i64 (rd31 xs i).f1) ∧ w.cell? ⟨(ad.add (i * 7)).block, (ad.add (i * 7)).off + 2, none⟩ = some (.int .i64 (rd31 xs i).f2) ∧ w.cell? ⟨(ad.add (i * 7)).block, (ad.add (i * 7)).off + 3, none⟩ = some (.int .i64 (rd31 xs i).f3) ∧ w.cell? ⟨(ad.add (i * 7)).block, (ad.add (i * 7)).off + 4, none⟩ = some (.int .i64 (rd31 xs i).f4) ∧ w.cell? ⟨(ad.add (i * 7)).block, (ad.add (i * 7)).off + 5, none⟩ = some (.int .i64 (rd31 xs i).f5) ∧ w.cell? ⟨(ad.add (i * 7)).block, (ad.add (i * 7)).off + 6, none⟩ = some (.slice B (rd31 xs i).f6.length c) ∧ (rd31 xs i).f6.length ≤ c ∧ Kd.C k35 w B (rd31 xs i).f6.length (rd31 xs i).f6 := by
  obtain ⟨ad, c, e, _, hK, hc0⟩ := Kd.C_get h z31 (i : Int) (by omega) (by omega)
  rw [Int.toNat_natCast] at hK hc0
  have hc : ∀ j u, c[j]? = some u → w.cell? (ad.add (i * 7 + j)) = some u := hc0
  obtain ⟨B, cc, rfl, hl, hC⟩ := k31_open hK
  exact ⟨ad, B, cc, e, hc 0 _ rfl, by rw [← add_field _ _ 1 (by omega)]; exact hc 1 _ rfl, by rw [← add_field _ _ 2 (by omega)]; exact hc 2 _ rfl, by rw [← add_field _ _ 3 (by omega)]; exact hc 3 _ rfl, by rw [← add_field _ _ 4 (by omega)]; exact hc 4 _ rfl, by rw [← add_field _ _ 5 (by omega)]; exact hc 5 _ rfl, by rw [← add_field _ _ 6 (by omega)]; exact hc 6 _ rfl, hl, hC⟩
abbrev msgV (m : S31) (A : Option Addr) (c : Nat) : Value := .agg #[.int .i64 m.f0, .int .i64 m.f1, .int .i64 m.f2, .int .i64 m.f3, .int .i64 m.f4, .int .i64 m.f5, .slice A m.f6.length c]
/-- a row of a call's own: where it lies; a count in it is written -/
theorem own35 {w : World} {base n c : Nat} {ok : Nat → Prop} {A : Option Addr} {l : List S35} (h : k35.R 35 w base ok (.slice A n c) l) (hl : 0 < n) : ∃ q, A = some ⟨q, 0, none⟩ ∧ base ≤ q ∧ q < w.heap.size := by
  have hb := (Kd.R_bound h).1
  obtain ⟨_, inner, ho, _⟩ := h
  rcases ho.2 with ⟨he, _⟩ | ⟨q, cap, cur, he, _⟩
  · injection he with _ h2 _; omega
  · injection he with h1 _ _
    subst h1
    have := hb q (by simp [Value.ownBlock])
    exact ⟨q, rfl, this.2.1, this.2.2.1⟩
theorem setCount {w : World} {base q n c p : Nat} {ok : Nat → Prop} {l : List S35} (h : k35.R 35 w base ok (.slice (some ⟨q, 0, none⟩) n c) l) (hp : p < n) (y : Int) :
    (∃ u, w.cell? ⟨q, p * 3 + 2, none⟩ = some u) ∧ w.frozen? ⟨q, p * 3 + 2, none⟩ = false ∧ k35.R 35 (w.setCell ⟨q, p * 3 + 2, none⟩ (.int .i64 y)) base ok (.slice (some ⟨q, 0, none⟩) n c) (l.set p { l.getD p z35 with f2 := y }) := by
  obtain ⟨cc, h1, h2, h3, h4⟩ := Kd.R_elem h z35 (p : Int) (by omega) (by omega)
  rw [Int.toNat_natCast] at h2 h3 h4
  have hc := k35_openM h2
  subst hc
  have h5 := Kd.R_seg (okp := fun _ => False) h (p : Int) (by omega) (by omega) (seg := [.int .i64 y]) (j := 2) h1 (by rw [Int.toNat_natCast]; exact h3) (Nat.le_of_ble_eq_true rfl) (x' := { l.getD p z35 with f2 := y }) (k35_mkM _ _ _ _) (fun _ hf => hf.elim)
  rw [Int.toNat_natCast] at h5
  exact ⟨⟨_, h3 2 _ rfl⟩, h4 2, h5.1⟩
/-- what a cell stands at -/
structure Cv where
  n : Int
  b : Int
  e : Int
  v : Int
  u : Int
  l : List S35
section
variable {ok ok' : Nat → Prop} {t : Nat} {w0 W W1 : World} {g : Nat} {x : Cv}
def Ct (ok : Nat → Prop) (t : Nat) (w0 W : World) (g : Nat) (x : Cv) : Prop := ∃ V, Ce ok t w0 W g x.n x.b x.e x.v x.u V x.l
theorem Ct.below (h : Ct ok t w0 W g x) (hb : Below W.heap.size W W1) : Ct ok t w0 W1 g x := by
  obtain ⟨V, h⟩ := h
  exact ⟨V, h.below hb⟩
theorem Ct.ge (h : Ct ok t w0 W g x) : w0.heap.size ≤ g := by
  obtain ⟨V, h⟩ := h
  exact h.2.1
theorem Ct.blk (h : Ct ok t w0 W g x) : ∃ cs, W.heap[g]? = some (.cells cs t (0, 0)) := by
  obtain ⟨V, h⟩ := h
  exact ⟨_, h.1⟩
theorem Ct.lt (h : Ct ok t w0 W g x) : g < W.heap.size := by
  obtain ⟨cs, h⟩ := h.blk
  exact blk_lt h
theorem Ct.ne {o t2 : Nat} {cs : Array Value} (h : Ct ok t w0 W g x) (ho : W.heap[o]? = some (.cells cs t2 (0, 0))) (ht : t ≠ t2) : o ≠ g := by
  obtain ⟨c2, h⟩ := h.blk
  rintro rfl
  rw [h] at ho; injection ho with ho; injection ho with _ ho; exact ht ho
theorem Ct.mono (h : Ct ok t w0 W g x) (hok : ∀ k, ok k → k < W.heap.size → ok' k) : Ct ok' t w0 W g x := by
  obtain ⟨V, h1, h2, h3⟩ := h
  exact ⟨V, h1, h2, Kd.R_mono (Kd.R_bound h3) (fun k hk => ⟨hk.1.1, hok k hk.1.2 hk.2.2.1⟩)⟩
theorem Ct.keep {g2 t2 : Nat} {cs : Array Value} (h : Ct ok t w0 W g x) (h2 : W.heap[g2]? = some (.cells cs t2 (0, 0))) (ht : (35 : Nat) ≠ t2) (hne : g ≠ g2) (hk : KeepBut W W1 g2 none) : Ct ok t w0 W1 g x := by
  obtain ⟨V, h1, h3, h4⟩ := h
  exact ⟨V, keep_blk hk h1 hne, h3, Kd.R_mono (Kd.R_keep (Kd.R_types h4 h2 (fun q hq => by simp [k35, Kd.iso, Kd.pair, Kd.string, Kd.int, Kd.scalar] at hq; subst hq; exact ht)) hk (fun k hk => hk.2)) (fun _ hk => hk.1)⟩
theorem Ct.far {q j : Nat} (h : Ct ok t w0 W g x) (hg : g ≠ q) (hq : ∀ k, ok k → k ≠ q) (y : Value) : Ct ok t w0 (W.setCell ⟨q, j, none⟩ y) g x := by
  obtain ⟨V, h1, h3, h4⟩ := h
  exact ⟨V, blk_far (p := ⟨q, j, none⟩) h1 hg _, h3, Kd.R_far (p := ⟨q, j, none⟩) h4 (fun k hk => hq k hk.2) _⟩
def took (x : Cv) (m : S31) : Bool := takesS x.n x.b x.e x.v m.f0 m.f1 m.f2 m.f3 m.f4 m.f5 m.f6
def nxt (x : Cv) (m : S31) : Cv := ⟨x.n, x.b, if took x m then m.f3 else x.e, if took x m then m.f4 else x.v, if took x m && !decide (m.f4 = 0) then m.f5 else x.u, if took x m && !decide (m.f4 = 0) then m.f6 else x.l⟩
theorem nxt_len {k : Nat} {m : S31} (h : x.l.length ≤ k) (h2 : m.f6.length ≤ k) : (nxt x m).l.length ≤ k := by
  show (if _ then m.f6 else x.l).length ≤ k
  split <;> assumption
variable (g x)
theorem prec (m : S31) (A : Option Addr) (c : Nat) (w0 w : World) (h : Ct ok 51 w0 w g x) (hB : Below w0.heap.size w0 w) (hC : Kd.C k35 w A m.f6.length m.f6) (hc : m.f6.length ≤ c) (hml : m.f6.length ≤ 2000000000000) (hok : ∀ k, w.heap.size ≤ k → ok k) :
    Calls Tryd.prog 11 #[.pointer (some ⟨g, 0, none⟩), msgV m A c] w fun ee w' => ee = .returned (.bool (took x m)) ∧ Ct ok 51 w0 w' g (nxt x m) ∧ Below w0.heap.size w0 w' ∧ KeepBut w w' g none := by
  obtain ⟨V, h⟩ := h
  refine (recv_any g x.n x.b x.e x.v x.u V x.l m.f0 m.f1 m.f2 m.f3 m.f4 m.f5 A c m.f6 w0 w h hB hC hc hml hok).mono ?_
  rintro ee w' ⟨T, hh, rfl, h1, h2, h3⟩
  subst hh
  exact ⟨rfl, h1, h2, h3⟩
theorem drec (m : S31) (A : Option Addr) (c : Nat) (w0 w : World) (h : Ct ok 53 w0 w g x) (hB : Below w0.heap.size w0 w) (hC : Kd.C k35 w A m.f6.length m.f6) (hc : m.f6.length ≤ c) (hml : m.f6.length ≤ 2000000000000) (hok : ∀ k, w.heap.size ≤ k → ok k) (hfar : ∀ ad, A = some ad → 0 < m.f6.length → ad.block ≠ g) :
    Calls Tryd.prog 12 #[.pointer (some ⟨g, 0, none⟩), msgV m A c] w fun ee w' => ee = .returned (.bool (took x m)) ∧ Ct ok 53 w0 w' g (nxt x m) ∧ Below w0.heap.size w0 w' ∧ KeepBut w w' g none := by
  obtain ⟨V, h⟩ := h
  refine (rrecv_any g x.n x.b x.e x.v x.u V x.l m.f0 m.f1 m.f2 m.f3 m.f4 m.f5 A c m.f6 w0 w h hB hC hc hml hok hfar).mono ?_
  rintro ee w' ⟨T, hh, rfl, h1, h2, h3⟩
  subst hh
  exact ⟨rfl, h1, h2, h3⟩
theorem prep (w0 w : World) (h : Ct ok 51 w0 w g x) (hw : w0.heap.size ≤ w.heap.size) (hl : x.l.length ≤ 2000000000000) :
    Calls Tryd.prog 15 #[.pointer (some ⟨g, 0, none⟩)] w fun ee w' => ∃ A c, ee = .returned (msgV ⟨2, x.n, x.b, x.e, x.v, x.u, x.l⟩ A c) ∧ x.l.length ≤ c ∧ Row w0 w' A x.l ∧ Below w.heap.size w w' := by
  obtain ⟨V, h⟩ := h
  refine (report_any g x.n x.b x.e x.v x.u V x.l w0 w h hl).mono ?_
  rintro ee w' ⟨A, rfl, hm, hb⟩
  exact ⟨A, _, rfl, Nat.le_refl _, hm.row hw, hb⟩
theorem drep (w0 w : World) (h : Ct ok 53 w0 w g x) (hw : w0.heap.size ≤ w.heap.size) (hl : x.l.length ≤ 2000000000000) :
    Calls Tryd.prog 16 #[.pointer (some ⟨g, 0, none⟩)] w fun ee w' => ∃ A c, ee = .returned (msgV ⟨2, x.n, x.b, x.e, x.v, x.u, x.l⟩ A c) ∧ x.l.length ≤ c ∧ Row w0 w' A x.l ∧ Below w.heap.size w w' := by
  obtain ⟨V, h⟩ := h
  refine (rreport_any g x.n x.b x.e x.v x.u V x.l w0 w h hl).mono ?_
  rintro ee w' ⟨A, c, rfl, hc, hm, hb⟩
  exact ⟨A, c, rfl, hc, hm.row hw, hb⟩
theorem prun (now : Int) (w0 w : World) (h : Ct ok 51 w0 w g x) (hw : w0.heap.size ≤ w.heap.size) (hl : x.l.length ≤ 2000000000000) :
    Calls Tryd.prog 17 #[.pointer (some ⟨g, 0, none⟩), .int .i64 now] w fun ee w' => ∃ A c, ee = .returned (.slice A (runS now x.u x.l).length c) ∧ (runS now x.u x.l).length ≤ c ∧ Row w0 w' A (runS now x.u x.l) ∧ Below w.heap.size w w' := by
  obtain ⟨V, h⟩ := h
  refine (running_any g x.n x.b x.e x.v x.u now V x.l w0 w h hl).mono ?_
  rintro ee w' ⟨A, c, rfl, hc, hm, hb⟩
  exact ⟨A, c, rfl, hc, hm.row hw, hb⟩
theorem drun (now : Int) (w0 w : World) (h : Ct ok 53 w0 w g x) (hw : w0.heap.size ≤ w.heap.size) (hl : x.l.length ≤ 2000000000000) :
    Calls Tryd.prog 18 #[.pointer (some ⟨g, 0, none⟩), .int .i64 now] w fun ee w' => ∃ A c, ee = .returned (.slice A (runS now x.u x.l).length c) ∧ (runS now x.u x.l).length ≤ c ∧ Row w0 w' A (runS now x.u x.l) ∧ Below w.heap.size w w' := by
  obtain ⟨V, h⟩ := h
  refine (rrunning_any g x.n x.b x.e x.v x.u now V x.l w0 w h hl).mono ?_
  rintro ee w' ⟨A, c, rfl, hc, hm, hb⟩
  exact ⟨A, c, rfl, hc, hm.row hw, hb⟩
theorem run_len (now : Int) : (runS now x.u x.l).length ≤ x.l.length := by
  unfold runS
  split
  · exact Nat.le_refl _
  · exact Nat.zero_le _
end
/-- the four cells of CellPlays -/
structure F4 (ok : Nat → Prop) (w W : World) (ga gb gc gd : Nat) (a b c d : Cv) : Prop where
  ha : Ct ok 51 w W ga a
  hb : Ct ok 53 w W gb b
  hc : Ct ok 51 w W gc c
  hd : Ct ok 53 w W gd d
  B : Below w.heap.size w W
  ac : ga ≠ gc
  bd : gb ≠ gd
section
variable {ok ok' : Nat → Prop} {w W W1 : World} {ga gb gc gd : Nat} {a b c d x : Cv}
theorem F4.below (h : F4 ok w W ga gb gc gd a b c d) (hb : Below W.heap.size W W1) : F4 ok w W1 ga gb gc gd a b c d :=
  ⟨h.ha.below hb, h.hb.below hb, h.hc.below hb, h.hd.below hb, h.B.trans (hb.mono h.B.size), h.ac, h.bd⟩
theorem F4.mono (h : F4 ok w W ga gb gc gd a b c d) (hok : ∀ k, ok k → k < W.heap.size → ok' k) : F4 ok' w W ga gb gc gd a b c d :=
  ⟨h.ha.mono hok, h.hb.mono hok, h.hc.mono hok, h.hd.mono hok, h.B, h.ac, h.bd⟩
theorem F4.far {q j : Nat} {cs : Array Value} (h : F4 ok w W ga gb gc gd a b c d) (hq : W.heap[q]? = some (.cells cs 35 (0, 0))) (hge : w.heap.size ≤ q) (ho : ∀ k, ok k → k ≠ q) (y : Value) : F4 ok w (W.setCell ⟨q, j, none⟩ y) ga gb gc gd a b c d :=
  ⟨h.ha.far (h.ha.ne hq (by decide)).symm ho y, h.hb.far (h.hb.ne hq (by decide)).symm ho y, h.hc.far (h.hc.ne hq (by decide)).symm ho y, h.hd.far (h.hd.ne hq (by decide)).symm ho y, h.B.setCell (p := ⟨q, j, none⟩) hge y, h.ac, h.bd⟩
theorem F4.setA (h : F4 ok w W ga gb gc gd a b c d) (h1 : Ct ok 51 w W1 ga x) (hB : Below w.heap.size w W1) (hk : KeepBut W W1 ga none) : F4 ok w W1 ga gb gc gd x b c d := by
  obtain ⟨cs, e⟩ := h.ha.blk
  exact ⟨h1, h.hb.keep e (by decide) (h.hb.ne e (by decide)).symm hk, h.hc.keep e (by decide) h.ac.symm hk, h.hd.keep e (by decide) (h.hd.ne e (by decide)).symm hk, hB, h.ac, h.bd⟩
theorem F4.setB (h : F4 ok w W ga gb gc gd a b c d) (h1 : Ct ok 53 w W1 gb x) (hB : Below w.heap.size w W1) (hk : KeepBut W W1 gb none) : F4 ok w W1 ga gb gc gd a x c d := by
  obtain ⟨cs, e⟩ := h.hb.blk
  exact ⟨h.ha.keep e (by decide) (h.ha.ne e (by decide)).symm hk, h1, h.hc.keep e (by decide) (h.hc.ne e (by decide)).symm hk, h.hd.keep e (by decide) h.bd.symm hk, hB, h.ac, h.bd⟩
theorem F4.setC (h : F4 ok w W ga gb gc gd a b c d) (h1 : Ct ok 51 w W1 gc x) (hB : Below w.heap.size w W1) (hk : KeepBut W W1 gc none) : F4 ok w W1 ga gb gc gd a b x d := by
  obtain ⟨cs, e⟩ := h.hc.blk
  exact ⟨h.ha.keep e (by decide) h.ac hk, h.hb.keep e (by decide) (h.hb.ne e (by decide)).symm hk, h1, h.hd.keep e (by decide) (h.hd.ne e (by decide)).symm hk, hB, h.ac, h.bd⟩
theorem F4.setD (h : F4 ok w W ga gb gc gd a b c d) (h1 : Ct ok 53 w W1 gd x) (hB : Below w.heap.size w W1) (hk : KeepBut W W1 gd none) : F4 ok w W1 ga gb gc gd a b c x := by
  obtain ⟨cs, e⟩ := h.hd.blk
  exact ⟨h.ha.keep e (by decide) (h.ha.ne e (by decide)).symm hk, h.hb.keep e (by decide) h.bd hk, h.hc.keep e (by decide) (h.hc.ne e (by decide)).symm hk, h1, hB, h.ac, h.bd⟩
end
end Go.Proofs.YtpgifeoigconbaaDoor.Cl
