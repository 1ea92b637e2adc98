/- IntentStays: the walk. -/
import Derived.Test.YtldlkbjbfgieeaaGreatDoorSu
import Derived.Test.YtldlkbjbfgieeaaGreatDoorOf
namespace Go.Proofs.YtldlkbjbfgieeaaGreatDoor.Is
set_option linter.unusedVariables false
set_option linter.unusedSimpArgs false
open Go.RowKit Go.Proofs.YtldlkbjbfgieeaaGreatDoorW.PrintWords Go.Proofs.YtldlkbjbfgieeaaGreatDoorW.PrintLast Go.Proofs.YtldlkbjbfgieeaaGreatDoor.Mo Go.Proofs.YtldlkbjbfgieeaaGreatDoor.Q Go.Proofs.YtldlkbjbfgieeaaGreatDoor.Rw Go.Proofs.YtldlkbjbfgieeaaGreatDoor.Cb Go.Proofs.YtldlkbjbfgieeaaGreatDoor.Ch Go.Proofs.YtldlkbjbfgieeaaGreatDoor.Ap Go.Proofs.YtldlkbjbfgieeaaGreatDoor.St Go.Proofs.YtldlkbjbfgieeaaGreatDoor.Su Go.Proofs.YtldlkbjbfgieeaaGreatDoor.Ft Go.Proofs.YtldlkbjbfgieeaaGreatDoor.Op Go.Proofs.YtldlkbjbfgieeaaGreatDoor.Of
open Go.Proofs.YtldlkbjbfgieeaaGreatDoor.La (In64 raw)
open Go.Proofs.YtldlkbjbfgieeaaGreatDoor.Ri (rightS rightO stV Small)
abbrev BorIs_0 : Array Bool := #[true, true, true, true, true, true, true, true, true, true, true, false, false]
abbrev BorIs_1 : Array Bool := #[true, true, true, true, true, true, false, false, false, false, true, false, false]
abbrev BorIs_2 : Array Bool := #[true, true, true, true, true, true, true, false, false, false, true, false, false]
abbrev BorIs_3 : Array Bool := #[true, true, true, true, true, true, true, true, false, false, true, false, false]
abbrev BorIs_4 : Array Bool := #[true, true, true, true, true, true, true, true, true, false, true, false, false]
theorem s1orIs {α : Type} (xs : List α) (i : Nat) (v : α) : xs.toArray.setIfInBounds i v = (xs.set i v).toArray := List.setIfInBounds_toArray xs i v
theorem s2orIs {α : Type} (x : α) (xs : List α) (v : α) : (x :: xs).set 0 v = v :: xs := List.set_cons_zero
theorem s3orIs {α : Type} (x : α) (xs : List α) (n : Nat) (v : α) : (x :: xs).set (n + 1) v = x :: xs.set n v := List.set_cons_succ
theorem apply_small {e : Int} {ws : List W} {ns : List N} {k : Int} {x : W} {y : N} {id : ByteArray} {want : Int} (hs : Small ws ns) (hx : x.f5.size < 4294967281) (hy : y.f3.size < 4294967281) : Small (applyS e ws ns k x y id want).2.1 (applyS e ws ns k x y id want).2.2.1 := by
  have nil : Small [] [] := ⟨fun z h => (by cases h), fun z h => (by cases h)⟩
  unfold applyS
  split
  · split
    · unfold chS
      split
      · unfold PuW.putS
        split
        · exact ⟨fun z h => (by cases h), hs.2⟩
        · split
          · exact ⟨fun z h => (by cases h), hs.2⟩
          · refine ⟨fun z h => ?_, hs.2⟩
            rcases List.mem_append.1 h with h | h
            · exact hs.1 z (List.mem_of_mem_take h)
            · rcases List.mem_cons.1 h with rfl | h
              · exact hx
              · exact hs.1 z (List.mem_of_mem_drop h)
      split
      · unfold PuN.putS
        split
        · exact ⟨hs.1, fun z h => (by cases h)⟩
        · split
          · exact ⟨hs.1, fun z h => (by cases h)⟩
          · refine ⟨hs.1, fun z h => ?_⟩
            rcases List.mem_append.1 h with h | h
            · exact hs.2 z (List.mem_of_mem_take h)
            · rcases List.mem_cons.1 h with rfl | h
              · exact hy
              · exact hs.2 z (List.mem_of_mem_drop h)
      split
      · split
        · exact nil
        · exact hs
      split
      · split
        · rename_i hh
          refine ⟨fun z h => ?_, hs.2⟩
          rcases List.mem_or_eq_of_mem_set h with h | rfl
          · exact hs.1 z h
          · show (ws.getD (FiW.pos ws id) z32).f5.size < 4294967281
            refine hs.1 _ ?_
            rw [List.getD_eq_getElem?_getD, List.getElem?_eq_getElem (has_lt hh)]
            exact List.getElem_mem _
        · exact nil
      split
      · split
        · refine ⟨fun z h => ?_, hs.2⟩
          rcases List.mem_append.1 h with h | h
          · exact hs.1 z (List.mem_of_mem_take h)
          · exact hs.1 z (List.mem_of_mem_drop h)
        · exact nil
      split
      · split
        · refine ⟨hs.1, fun z h => ?_⟩
          rcases List.mem_append.1 h with h | h
          · exact hs.2 z (List.mem_of_mem_take h)
          · exact hs.2 z (List.mem_of_mem_drop h)
        · exact nil
      split
      · rename_i hh
        refine ⟨hs.1, fun z h => ?_⟩
        rcases List.mem_or_eq_of_mem_set h with h | rfl
        · exact hs.2 z h
        · show (ns.getD (FiN.pos ns id) z34).f3.size < 4294967281
          refine hs.2 _ ?_
          rw [List.getD_eq_getElem?_getD, List.getElem?_eq_getElem (has_ltN hh)]
          exact List.getElem_mem _
      · exact nil
    · exact nil
  · exact nil
theorem opX_small {rk : Int} {nm : ByteArray} {l : List Int} {T : ByteArray} (h : T.size < 100) : (opX rk nm l T).f5.size < 4294967281 := by
  unfold opX
  split
  · show (if pk (at_ l 4) 3 = 2 then T else ⟨#[]⟩).size < 4294967281
    split
    · omega
    · decide
  · show ByteArray.size ⟨#[]⟩ < _
    decide
theorem opY_small {rk : Int} {nm : ByteArray} {l : List Int} {L : ByteArray} (h : L.size < 200) : (opY rk nm l L).f3.size < 4294967281 := by
  unfold opY
  split
  · show (if pk (at_ l 2) 2 = 1 then L else ⟨#[]⟩).size < 4294967281
    split
    · omega
    · decide
  · show ByteArray.size ⟨#[]⟩ < _
    decide
def RawAt (w : World) (ra : Addr) (X : S40) (Ar : Option Addr) (cr : Nat) : Prop := w.cell? ra = some (.int .i64 X.f0) ∧ w.cell? ⟨ra.block, ra.off + 1, none⟩ = some (.int .i64 X.f1) ∧ w.cell? ⟨ra.block, ra.off + 2, none⟩ = some (.int .i64 X.f2) ∧ w.cell? ⟨ra.block, ra.off + 3, none⟩ = some (.slice Ar X.f3.length cr)
theorem rowW_below {w0 w w' : World} {A : Option Addr} {l : List W} (h : RoW w0 w A l) (hb : Below w.heap.size w w') : RoW w0 w' A l := h.imp fun c h => Kd.R_below h hb
theorem rowN_below {w0 w w' : World} {A : Option Addr} {l : List N} (h : RoN w0 w A l) (hb : Below w.heap.size w w') : RoN w0 w' A l := h.imp fun c h => Kd.R_below h hb
theorem rowW_lower {w0 w1 w : World} {A : Option Addr} {l : List W} (h : RoW w1 w A l) (hb : w0.heap.size ≤ w1.heap.size) : RoW w0 w A l := h.imp fun c h => Kd.R_lower h hb
theorem rowN_lower {w0 w1 w : World} {A : Option Addr} {l : List N} (h : RoN w1 w A l) (hb : w0.heap.size ≤ w1.heap.size) : RoN w0 w A l := h.imp fun c h => Kd.R_lower h hb
theorem rowW_C {w0 w : World} {A : Option Addr} {l : List W} (h : RoW w0 w A l) : Kd.C k32 w A l.length l := h.elim fun c h => (Kd.R_reads' h).2.2
theorem rowN_C {w0 w : World} {A : Option Addr} {l : List N} (h : RoN w0 w A l) : Kd.C k34 w A l.length l := h.elim fun c h => (Kd.R_reads' h).2.2
theorem rowW_set {w0 w : World} {A : Option Addr} {l : List W} {g : Nat} {cs : Array Value} (h : RoW w0 w A l) (hb : w.heap[g]? = some (.cells cs 27 (0, 0))) (a0 a1 a2 : Value) : RoW w0 (((w.setCell ⟨g, 0, none⟩ a0).setCell ⟨g, 1, none⟩ a1).setCell ⟨g, 2, none⟩ a2) A l := h.imp fun c h => R_put3 h hb (by decide) a0 a1 a2
theorem rowN_set {w0 w : World} {A : Option Addr} {l : List N} {g : Nat} {cs : Array Value} (h : RoN w0 w A l) (hb : w.heap[g]? = some (.cells cs 27 (0, 0))) (a0 a1 a2 : Value) : RoN w0 (((w.setCell ⟨g, 0, none⟩ a0).setCell ⟨g, 1, none⟩ a1).setCell ⟨g, 2, none⟩ a2) A l := h.imp fun c h => R_put3 h hb (by decide) a0 a1 a2
/-- the state s between the rounds -/
def Fs (w w' : World) (g : Nat) (e : Int) (A B : Option Addr) (c d : Nat) (ws : List W) (ns : List N) : Prop := w'.heap[g]? = some (.cells #[.int .i64 e, .slice A ws.length c, .slice B ns.length d] 27 (0, 0)) ∧ RoW w w' A ws ∧ RoN w w' B ns ∧ Below w.heap.size w w'
theorem Fs.below {w w' w2 : World} {g : Nat} {e : Int} {A B : Option Addr} {c d : Nat} {ws : List W} {ns : List N} (h : Fs w w' g e A B c d ws ns) (hb : Below w'.heap.size w' w2) : Fs w w2 g e A B c d ws ns := ⟨blk_below h.1 hb, rowW_below h.2.1 hb, rowN_below h.2.2.1 hb, below_then h.2.2.2 h.2.2.2.size hb⟩
theorem Fs.far {w w' : World} {g x : Nat} {e : Int} {A B : Option Addr} {c d : Nat} {ws : List W} {ns : List N} {cs : Array Value} (h : Fs w w' g e A B c d ws ns) (hx : g ≠ x) (hge : w.heap.size ≤ x) (hb : w'.heap[x]? = some (.cells cs 27 (0, 0))) (a0 a1 a2 : Value) : Fs w (((w'.setCell ⟨x, 0, none⟩ a0).setCell ⟨x, 1, none⟩ a1).setCell ⟨x, 2, none⟩ a2) g e A B c d ws ns :=
  ⟨blk_far (p := ⟨x, 2, none⟩) (blk_far (p := ⟨x, 1, none⟩) (blk_far (p := ⟨x, 0, none⟩) h.1 hx a0) hx a1) hx a2, rowW_set h.2.1 hb a0 a1 a2, rowN_set h.2.2.1 hb a0 a1 a2, ((h.2.2.2.setCell (p := ⟨x, 0, none⟩) hge a0).setCell (p := ⟨x, 1, none⟩) hge a1).setCell (p := ⟨x, 2, none⟩) hge a2⟩
theorem up {w w' : World} {p : Addr} {v : Value} (h : Below w.heap.size w w') (hx : w.cell? p = some v) : w'.cell? p = some v := (h.cell (World.block_lt_of_cell? w _ hx)).trans hx
theorem sOf {w w' : World} {g : Nat} {e : Int} {A B : Option Addr} {c d : Nat} {ws : List W} {ns : List N} (h : Fs w w' g e A B c d ws ns) {ra : Addr} {X : S40} {Ar : Option Addr} {cr : Nat} (hr : RawAt w ra X Ar cr) :
    w'.cell? ⟨g, 0, none⟩ = some (.int .i64 e) ∧ w'.cell? ⟨g, 1, none⟩ = some (.slice A ws.length c) ∧ w'.cell? ⟨g, 2, none⟩ = some (.slice B ns.length d) ∧ w'.cell? ra = some (.int .i64 X.f0) ∧ w'.cell? ⟨ra.block, ra.off + 1, none⟩ = some (.int .i64 X.f1) ∧ w'.cell? ⟨ra.block, ra.off + 2, none⟩ = some (.int .i64 X.f2) ∧ w'.cell? ⟨ra.block, ra.off + 3, none⟩ = some (.slice Ar X.f3.length cr) :=
  ⟨(blk_cell h.1 0).trans rfl, (blk_cell h.1 1).trans rfl, (blk_cell h.1 2).trans rfl, up h.2.2.2 hr.1, up h.2.2.2 hr.2.1, up h.2.2.2 hr.2.2.1, up h.2.2.2 hr.2.2.2⟩
set_option maxHeartbeats 8000000 in
set_option maxRecDepth 100000 in
theorem stays_any (haw : ∀ W, Calls Tryz.prog 11 #[] W fun e w' => e = .returned (.bool true) ∧ Below W.heap.size W w') (A0 : Option Addr) (c0 : Nat) (l : List S40) (w : World) (hl : Kd.C k40 w A0 l.length l) (hc : l.length ≤ c0) (hV : ∀ x ∈ l, In64 x.f0 ∧ In64 x.f1 ∧ In64 x.f2 ∧ ∀ z ∈ x.f3, In64 z) :
    Calls Tryz.prog 3 #[.slice A0 l.length c0] w fun e w' => e = .returned (.bool true) ∧ Below w.heap.size w w' := by
  go_enter Tryz.func3, Tryz.ntmps3
  go_wp2_with (first | (go_at_call 11; refine (haw _).mono ?_; rintro e w1 ⟨rfl, hb1⟩))
  have hF := Aside0.mk (show Fs w (w1.alloc stZ) w1.heap.size 0 none none 0 0 [] [] from ⟨blk_new w1 stZ, ⟨0, Kd.R_nil _ _ _ _ _⟩, ⟨0, Kd.R_nil _ _ _ _ _⟩, below_alloc hb1 stZ⟩)
  have hge := hb1.size
  clear hb1
  generalize w1.heap.size = g at *
  generalize w1.alloc stZ = wa at *
  go_loopg [5] 60 (fun kq v5 w' => ∃ (i : Nat) (e : Int) (A B : Option Addr) (c d : Nat) (ws : List W) (ns : List N), v5 = .int .i64 (i : Int) ∧ i + kq = 60 ∧ rightS e ws ns = true ∧ ws.length ≤ c ∧ ns.length ≤ d ∧ Small ws ns ∧ Aside0 (Fs w w' g e A B c d ws ns))
  case atStart => exact ⟨0, 0, none, none, 0, 0, [], [], rfl, rfl, by decide, Nat.le_refl _, Nat.le_refl _, ⟨fun z h => (by cases h), fun z h => (by cases h)⟩, hF⟩
  case round =>
    clear hF
    obtain ⟨i, e, A, B, c, d, ws, ns, rfl, hik, hrs, hlc, hld, hsm, hF⟩ := hrel
    by_cases h1 : i < l.length ∧ i < 60
    · obtain ⟨m, rfl⟩ : ∃ m, gk = m + 1 := ⟨gk - 1, by omega⟩
      have d1 : decide ((i : Int) < (l.length : Int)) = true := by simp; exact h1.1
      have d2 : decide ((i : Int) < 60) = true := by simp; omega
      obtain ⟨ad, Ar, cr, rfl, k0, k1, k2, k3, hcr, hCr⟩ := at_T40 hl (i : Int) (by omega) (by omega)
      have hX := hV (rd_T40 l (i : Int)) (by
        unfold rd_T40
        rw [Int.toNat_natCast, List.getD_eq_getElem?_getD, List.getElem?_eq_getElem h1.1]
        exact List.getElem_mem _)
      generalize rd_T40 l (i : Int) = X at *
      rw [Int.toNat_natCast] at k0 k1 k2 k3
      have hraw : RawAt w (ad.add (i * 4)) X Ar cr := ⟨k0, k1, k2, k3⟩
      clear k0 k1 k2 k3
      obtain ⟨T, L, kL, e1, e2, e3, e4, e5, e6⟩ := op_right hX.1 hX.2.1 hX.2.2.1 hX.2.2.2
      have hop := Lib.hid (fun W (hB : Below w.heap.size w W) => op_any X.f0 X.f1 X.f2 Ar cr X.f3 _ T L kL W hcr (Kd.C_below hCr hB) e1 e2 e3)
      have hsx : (opX X.f0 (nine (raw X.f1 % 9)) X.f3 T).f5.size < 4294967281 := opX_small e4
      have hsy : (opY X.f0 (nine (raw X.f1 % 9)) X.f3 L).f3.size < 4294967281 := opY_small e5
      generalize kOf X.f0 = kk at *
      generalize opX X.f0 (nine (raw X.f1 % 9)) X.f3 T = xx at *
      generalize opY X.f0 (nine (raw X.f1 % 9)) X.f3 L = yy at *
      generalize nine (raw X.f1 % 9) = nm at *
      generalize pk X.f2 17 = wn at *
      clear e1 e2 e3 e4 e5 e6 hX hCr hcr
      have hst := apply_stays (e := e) (ws := ws) (ns := ns) (k := kk) (x := xx) (y := yy) (id := nm) (want := wn)
      have hsm2 := apply_small (e := e) (k := kk) (id := nm) (want := wn) hsm hsx hsy
      have hap0 := fun W (hA : Kd.C k32 W A ws.length ws) (hN : Kd.C k34 W B ns.length ns) => apply_any e A B c d ws ns kk xx yy nm wn W hA hlc hN hld hsm hsx hsy
      generalize applyS e ws ns kk xx yy nm wn = R at *
      have hap := Lib.hid hap0
      clear hap0
      have hst := Lib.hid hst
      have hge' := Lib.hid hge
      clear hsx hsy
      have p1 : (0 ≤ (i : Int)) = True := eq_true (by omega)
      have q1 : ((i : Int) < (l.length : Int)) = True := eq_true (by omega)
      go_wp2_with fail
      go_cut [6, 7] (fun s6 s7 wx => ∃ (x : Nat) (A2 B2 : Option Addr), s6 = .pointer (some ⟨x, 0, none⟩) ∧ s7 = .int .i64 R.2.2.2 ∧ w.heap.size ≤ x ∧ g ≠ x ∧ wx.heap[x]? = some (.cells #[.int .i64 R.1, .slice A2 R.2.1.length R.2.1.length, .slice B2 R.2.2.1.length R.2.2.1.length] 27 (0, 0)) ∧ Aside0 (Fs w wx g e A B c d ws ns) ∧ RoW w wx A2 R.2.1 ∧ RoN w wx B2 R.2.2.1)
      case first =>
        refine start_ (n := 13) (S := fun w' => w'.cell? ⟨g, 0, none⟩ = some (.int .i64 e) ∧ w'.cell? ⟨g, 1, none⟩ = some (.slice A ws.length c) ∧ w'.cell? ⟨g, 2, none⟩ = some (.slice B ns.length d) ∧ w'.cell? (ad.add (i * 4)) = some (.int .i64 X.f0) ∧ w'.cell? ⟨(ad.add (i * 4)).block, (ad.add (i * 4)).off + 1, none⟩ = some (.int .i64 X.f1) ∧ w'.cell? ⟨(ad.add (i * 4)).block, (ad.add (i * 4)).off + 2, none⟩ = some (.int .i64 X.f2) ∧ w'.cell? ⟨(ad.add (i * 4)).block, (ad.add (i * 4)).off + 3, none⟩ = some (.slice Ar X.f3.length cr)) (ds := [11]) #[false, false, false, false, false, false, false, false, false, false, false, false, false] (by kernel_rfl) rfl (by kernel_rfl) (sOf hF.out hraw) (fun hHeld => ?_)
        replace hF := Aside0.mk (hF.out.below (below_drew (Below.refl _ _)))
        generalize wr.drew = wd at *
        refine take_ (i := 0) (N := some 20) (v := ?_) (a' := ?_) #[true, false, false, false, false, false, false, false, false, false, false, false, false] rfl rfl (by kernel_rfl) (fun _ _ _ h => h) (Or.inl ⟨by rfl, ?_⟩) hHeld ?_ ?_; rotate_left; (·rintro w' ⟨s0_, s1_, s2_, s3_, s4_, s5_, s6_⟩; go_simp; with_reducible rfl); rotate_left; (·simp only [Act.put, s1orIs, s2orIs, s3orIs, i64_w, i32_w, Nat.reduceAdd]; rfl)
        refine pure_ (i := 1) (N := some 21) (v := ?_) (a' := ?_) #[true, true, false, false, false, false, false, false, false, false, false, false, false] rfl rfl (by kernel_rfl) (fun _ _ _ h => h) (Or.inl ⟨by rfl, ?_⟩) ?_ ?_; rotate_left; (·intro w'; go_simp; with_reducible rfl); rotate_left; (·simp only [Act.put, s1orIs, s2orIs, s3orIs, i64_w, i32_w, Nat.reduceAdd]; rfl)
        refine pure_ (i := 2) (N := some 22) (v := ?_) (a' := ?_) #[true, true, true, false, false, false, false, false, false, false, false, false, false] rfl rfl (by kernel_rfl) (fun _ _ _ h => h) (Or.inl ⟨by rfl, ?_⟩) ?_ ?_; rotate_left; (·intro w'; go_simp; with_reducible rfl); rotate_left; (·simp only [Act.put, s1orIs, s2orIs, s3orIs, i64_w, i32_w, Nat.reduceAdd]; rfl)
        refine pure_ (i := 3) (N := some 23) (v := ?_) (a' := ?_) #[true, true, true, true, false, false, false, false, false, false, false, false, false] rfl rfl (by kernel_rfl) (fun _ _ _ h => h) (Or.inl ⟨by rfl, ?_⟩) ?_ ?_; rotate_left; (·intro w'; go_simp; with_reducible rfl); rotate_left; (·simp only [Act.put, s1orIs, s2orIs, s3orIs, i64_w, i32_w, Nat.reduceAdd]; rfl)
        refine take_ (i := 4) (N := some 24) (v := ?_) (a' := ?_) #[true, true, true, true, true, false, false, false, false, false, false, false, false] rfl rfl (by kernel_rfl) (fun _ _ _ h => h) (Or.inl ⟨by rfl, ?_⟩) hHeld ?_ ?_; rotate_left; (·rintro w' ⟨s0_, s1_, s2_, s3_, s4_, s5_, s6_⟩; go_simp; with_reducible rfl); rotate_left; (·simp only [Act.put, s1orIs, s2orIs, s3orIs, i64_w, i32_w, Nat.reduceAdd]; rfl)
        refine join_ (σ := Nat × Option Addr × Option Addr) 2 BorIs_0 (fun s_ => [(25, opV kk xx yy nm wn), (26, .tuple #[stV R.1 s_.2.1 R.2.1.length R.2.1.length s_.2.2 R.2.2.1.length R.2.2.1.length, .int .i64 R.2.2.2]), (19, .tuple #[stV R.1 s_.2.1 R.2.1.length R.2.1.length s_.2.2 R.2.2.1.length R.2.2.1.length, .int .i64 R.2.2.2]), (27, stV R.1 s_.2.1 R.2.1.length R.2.1.length s_.2.2 R.2.2.1.length R.2.2.1.length), (28, .int .i64 R.2.2.2), (6, .pointer (some ⟨s_.1, 0, none⟩))]) (fun s_ w' => w.heap.size ≤ s_.1 ∧ g ≠ s_.1 ∧ w'.heap[s_.1]? = some (.cells #[.int .i64 0, .slice none 0 0, .slice none 0 0] 27 (0, 0)) ∧ Fs w w' g e A B c d ws ns ∧ RoW w w' s_.2.1 R.2.1 ∧ RoN w w' s_.2.2 R.2.2.1) ?_ (fun hJ => ?_)
        rotate_left
        · refine two_ (i := 5) (j := 10) (Ni := some 25) (Nj := some 6) #[true, true, true, true, true, true, false, false, false, false, false, false, false] #[true, true, true, true, true, false, false, false, false, false, true, false, false] rfl rfl rfl rfl (by kernel_rfl) (by decide) (by decide) (fun K hK => ?_) (fun K hK => ?_)
          rotate_left
          · refine puts_ (some 6) (by rfl) rfl (v := .pointer (some ⟨wd.heap.size, 0, none⟩)) (w1 := wd.alloc stZ) (by first | (go_simp; done) | (go_simp; rfl)) ?_; have hFa := Aside0.mk (hF.out.below (below_alloc (Below.refl _ _) stZ)); have hx := blk_new wd stZ; have hxg := hF.out.2.2.2.size; have hxo := Nat.ne_of_lt (blk_lt hF.out.1); refine hK.out _ _ (sOf hFa.out hraw) (fun hHeld => ?_); clear hK K; refine norm_ (a' := ?_) ?_ ?_; rotate_left; (·show Act.put _ (some 6) _ = _; simp only [Act.put, s1orIs, s2orIs, s3orIs, i64_w, i32_w, Nat.reduceAdd]; rfl)
            refine one_ (i := 5) (N := some 25) BorIs_1 rfl rfl (by kernel_rfl) (by decide) (fun K hK => ?_); refine goes_ Tryz.func13 (by kernel_rfl) rfl #[.agg #[.int .i64 X.f0, .int .i64 X.f1, .int .i64 X.f2, .slice Ar X.f3.length cr]] (by rfl) rfl rfl (by (try simp only [List.map_toArray, List.map_cons, List.map_nil]); rfl) ?_; refine (hop.out _ hFa.out.2.2.2).mono ?_; rintro e w5 ⟨rfl, hb5⟩; have hF5 := Aside0.mk (hFa.out.below hb5); have hx5 := blk_below hx hb5; refine ⟨_, rfl, ?_⟩; refine hK.out _ _ (sOf hF5.out hraw) (fun hHeld => ?_); clear hK K; refine norm_ (a' := ?_) ?_ ?_; rotate_left; (·show Act.put _ (some 25) _ = _; simp only [Act.put, s1orIs, s2orIs, s3orIs, i64_w, i32_w, Nat.reduceAdd]; rfl)
            refine one_ (i := 6) (N := some 26) BorIs_2 rfl rfl (by kernel_rfl) (by decide) (fun K hK => ?_); refine goes_ Tryz.func12 (by kernel_rfl) rfl #[stV e A ws.length c B ns.length d, opV kk xx yy nm wn] (by rfl) rfl rfl (by (try simp only [List.map_toArray, List.map_cons, List.map_nil]); rfl) ?_; refine (hap.out _ (rowW_C hF5.out.2.1) (rowN_C hF5.out.2.2.1)).mono ?_; rintro e w6 ⟨A2, B2, rfl, hRA, hRB, hb6⟩; have hF6 := Aside0.mk (hF5.out.below hb6); have hCA := rowW_lower hRA (hF5.out.2.2.2.size); have hCB := rowN_lower hRB (hF5.out.2.2.2.size); have hx6 := blk_below hx5 hb6; refine ⟨_, rfl, ?_⟩; refine hK.out _ _ (sOf hF6.out hraw) (fun hHeld => ?_); clear hK K; refine norm_ (a' := ?_) ?_ ?_; rotate_left; (·show Act.put _ (some 26) _ = _; simp only [Act.put, s1orIs, s2orIs, s3orIs, i64_w, i32_w, Nat.reduceAdd]; rfl)
            refine pure_ (i := 7) (N := some 19) (v := ?_) (a' := ?_) BorIs_3 rfl rfl (by kernel_rfl) (fun _ _ _ h => h) (Or.inl ⟨by rfl, ?_⟩) ?_ ?_; rotate_left; (·intro w'; go_simp; with_reducible rfl); rotate_left; (·simp only [Act.put, s1orIs, s2orIs, s3orIs, i64_w, i32_w, Nat.reduceAdd]; rfl)
            refine pure_ (i := 8) (N := some 27) (v := ?_) (a' := ?_) BorIs_4 rfl rfl (by kernel_rfl) (fun _ _ _ h => h) (Or.inl ⟨by rfl, ?_⟩) ?_ ?_; rotate_left; (·intro w'; go_simp; with_reducible rfl); rotate_left; (·simp only [Act.put, s1orIs, s2orIs, s3orIs, i64_w, i32_w, Nat.reduceAdd]; rfl)
            refine pure_ (i := 9) (N := some 28) (v := ?_) (a' := ?_) BorIs_0 rfl rfl (by kernel_rfl) (fun _ _ _ h => h) (Or.inl ⟨by rfl, ?_⟩) ?_ ?_; rotate_left; (·intro w'; go_simp; with_reducible rfl); rotate_left; (·simp only [Act.put, s1orIs, s2orIs, s3orIs, i64_w, i32_w, Nat.reduceAdd]; rfl)
            exact norm_ (by first | (simp only [putAll, Act.put, List.setIfInBounds_toArray, List.set_cons_zero, List.set_cons_succ]; done) | (simp only [putAll, Act.put, List.setIfInBounds_toArray, List.set_cons_zero, List.set_cons_succ]; rfl)) (hJ (_, A2, B2) _ ⟨hxg, hxo, hx6, hF6.out, hCA, hCB⟩)
          refine goes_ Tryz.func13 (by kernel_rfl) rfl #[.agg #[.int .i64 X.f0, .int .i64 X.f1, .int .i64 X.f2, .slice Ar X.f3.length cr]] (by rfl) rfl rfl (by (try simp only [List.map_toArray, List.map_cons, List.map_nil]); rfl) ?_; refine (hop.out _ hF.out.2.2.2).mono ?_; rintro e w5 ⟨rfl, hb5⟩; have hF5 := Aside0.mk (hF.out.below hb5); refine ⟨_, rfl, ?_⟩; refine hK.out _ _ (sOf hF5.out hraw) (fun hHeld => ?_); clear hK K; refine norm_ (a' := ?_) ?_ ?_; rotate_left; (·show Act.put _ (some 25) _ = _; simp only [Act.put, s1orIs, s2orIs, s3orIs, i64_w, i32_w, Nat.reduceAdd]; rfl)
          refine two_ (i := 6) (j := 10) (Ni := some 26) (Nj := some 6) #[true, true, true, true, true, true, true, false, false, false, false, false, false] BorIs_1 rfl rfl rfl rfl (by kernel_rfl) (by decide) (by decide) (fun K hK => ?_) (fun K hK => ?_)
          rotate_left
          · refine puts_ (some 6) (by rfl) rfl (v := .pointer (some ⟨w5.heap.size, 0, none⟩)) (w1 := w5.alloc stZ) (by first | (go_simp; done) | (go_simp; rfl)) ?_; have hFa := Aside0.mk (hF5.out.below (below_alloc (Below.refl _ _) stZ)); have hx := blk_new w5 stZ; have hxg := hF5.out.2.2.2.size; have hxo := Nat.ne_of_lt (blk_lt hF5.out.1); refine hK.out _ _ (sOf hFa.out hraw) (fun hHeld => ?_); clear hK K; refine norm_ (a' := ?_) ?_ ?_; rotate_left; (·show Act.put _ (some 6) _ = _; simp only [Act.put, s1orIs, s2orIs, s3orIs, i64_w, i32_w, Nat.reduceAdd]; rfl)
            refine one_ (i := 6) (N := some 26) BorIs_2 rfl rfl (by kernel_rfl) (by decide) (fun K hK => ?_); refine goes_ Tryz.func12 (by kernel_rfl) rfl #[stV e A ws.length c B ns.length d, opV kk xx yy nm wn] (by rfl) rfl rfl (by (try simp only [List.map_toArray, List.map_cons, List.map_nil]); rfl) ?_; refine (hap.out _ (rowW_C hFa.out.2.1) (rowN_C hFa.out.2.2.1)).mono ?_; rintro e w6 ⟨A2, B2, rfl, hRA, hRB, hb6⟩; have hF6 := Aside0.mk (hFa.out.below hb6); have hCA := rowW_lower hRA (hFa.out.2.2.2.size); have hCB := rowN_lower hRB (hFa.out.2.2.2.size); have hx6 := blk_below hx hb6; refine ⟨_, rfl, ?_⟩; refine hK.out _ _ (sOf hF6.out hraw) (fun hHeld => ?_); clear hK K; refine norm_ (a' := ?_) ?_ ?_; rotate_left; (·show Act.put _ (some 26) _ = _; simp only [Act.put, s1orIs, s2orIs, s3orIs, i64_w, i32_w, Nat.reduceAdd]; rfl)
            refine pure_ (i := 7) (N := some 19) (v := ?_) (a' := ?_) BorIs_3 rfl rfl (by kernel_rfl) (fun _ _ _ h => h) (Or.inl ⟨by rfl, ?_⟩) ?_ ?_; rotate_left; (·intro w'; go_simp; with_reducible rfl); rotate_left; (·simp only [Act.put, s1orIs, s2orIs, s3orIs, i64_w, i32_w, Nat.reduceAdd]; rfl)
            refine pure_ (i := 8) (N := some 27) (v := ?_) (a' := ?_) BorIs_4 rfl rfl (by kernel_rfl) (fun _ _ _ h => h) (Or.inl ⟨by rfl, ?_⟩) ?_ ?_; rotate_left; (·intro w'; go_simp; with_reducible rfl); rotate_left; (·simp only [Act.put, s1orIs, s2orIs, s3orIs, i64_w, i32_w, Nat.reduceAdd]; rfl)
            refine pure_ (i := 9) (N := some 28) (v := ?_) (a' := ?_) BorIs_0 rfl rfl (by kernel_rfl) (fun _ _ _ h => h) (Or.inl ⟨by rfl, ?_⟩) ?_ ?_; rotate_left; (·intro w'; go_simp; with_reducible rfl); rotate_left; (·simp only [Act.put, s1orIs, s2orIs, s3orIs, i64_w, i32_w, Nat.reduceAdd]; rfl)
            exact norm_ (by first | (simp only [putAll, Act.put, List.setIfInBounds_toArray, List.set_cons_zero, List.set_cons_succ]; done) | (simp only [putAll, Act.put, List.setIfInBounds_toArray, List.set_cons_zero, List.set_cons_succ]; rfl)) (hJ (_, A2, B2) _ ⟨hxg, hxo, hx6, hF6.out, hCA, hCB⟩)
          refine goes_ Tryz.func12 (by kernel_rfl) rfl #[stV e A ws.length c B ns.length d, opV kk xx yy nm wn] (by rfl) rfl rfl (by (try simp only [List.map_toArray, List.map_cons, List.map_nil]); rfl) ?_; refine (hap.out _ (rowW_C hF5.out.2.1) (rowN_C hF5.out.2.2.1)).mono ?_; rintro e w6 ⟨A2, B2, rfl, hRA, hRB, hb6⟩; have hF6 := Aside0.mk (hF5.out.below hb6); have hCA := rowW_lower hRA (hF5.out.2.2.2.size); have hCB := rowN_lower hRB (hF5.out.2.2.2.size); refine ⟨_, rfl, ?_⟩; refine hK.out _ _ (sOf hF6.out hraw) (fun hHeld => ?_); clear hK K; refine norm_ (a' := ?_) ?_ ?_; rotate_left; (·show Act.put _ (some 26) _ = _; simp only [Act.put, s1orIs, s2orIs, s3orIs, i64_w, i32_w, Nat.reduceAdd]; rfl)
          refine pure_ (i := 7) (N := some 19) (v := ?_) (a' := ?_) #[true, true, true, true, true, true, true, true, false, false, false, false, false] rfl rfl (by kernel_rfl) (fun _ _ _ h => h) (Or.inl ⟨by rfl, ?_⟩) ?_ ?_; rotate_left; (·intro w'; go_simp; with_reducible rfl); rotate_left; (·simp only [Act.put, s1orIs, s2orIs, s3orIs, i64_w, i32_w, Nat.reduceAdd]; rfl)
          refine pure_ (i := 8) (N := some 27) (v := ?_) (a' := ?_) #[true, true, true, true, true, true, true, true, true, false, false, false, false] rfl rfl (by kernel_rfl) (fun _ _ _ h => h) (Or.inl ⟨by rfl, ?_⟩) ?_ ?_; rotate_left; (·intro w'; go_simp; with_reducible rfl); rotate_left; (·simp only [Act.put, s1orIs, s2orIs, s3orIs, i64_w, i32_w, Nat.reduceAdd]; rfl)
          refine pure_ (i := 9) (N := some 28) (v := ?_) (a' := ?_) #[true, true, true, true, true, true, true, true, true, true, false, false, false] rfl rfl (by kernel_rfl) (fun _ _ _ h => h) (Or.inl ⟨by rfl, ?_⟩) ?_ ?_; rotate_left; (·intro w'; go_simp; with_reducible rfl); rotate_left; (·simp only [Act.put, s1orIs, s2orIs, s3orIs, i64_w, i32_w, Nat.reduceAdd]; rfl)
          refine one_ (i := 10) (N := some 6) BorIs_0 rfl rfl (by kernel_rfl) (by decide) (fun K hK => ?_); refine puts_ (some 6) (by rfl) rfl (v := .pointer (some ⟨w6.heap.size, 0, none⟩)) (w1 := w6.alloc stZ) (by first | (go_simp; done) | (go_simp; rfl)) ?_; have hFa := Aside0.mk (hF6.out.below (below_alloc (Below.refl _ _) stZ)); have hx := blk_new w6 stZ; have hxg := hF6.out.2.2.2.size; have hxo := Nat.ne_of_lt (blk_lt hF6.out.1); have hCAa := rowW_below hCA (below_alloc (Below.refl _ _) stZ); have hCBa := rowN_below hCB (below_alloc (Below.refl _ _) stZ); refine hK.out _ _ (sOf hFa.out hraw) (fun hHeld => ?_); clear hK K; refine norm_ (a' := ?_) ?_ ?_; rotate_left; (·show Act.put _ (some 6) _ = _; simp only [Act.put, s1orIs, s2orIs, s3orIs, i64_w, i32_w, Nat.reduceAdd]; rfl)
          exact norm_ (by first | (simp only [putAll, Act.put, List.setIfInBounds_toArray, List.set_cons_zero, List.set_cons_succ]; done) | (simp only [putAll, Act.put, List.setIfInBounds_toArray, List.set_cons_zero, List.set_cons_succ]; rfl)) (hJ (_, A2, B2) _ ⟨hxg, hxo, hx, hFa.out, hCAa, hCBa⟩)
        clear hF hHeld
        rintro ⟨x, A2, B2⟩ w6 ⟨hxg, hxo, hX, hF, hCA, hCB⟩
        replace hF := Aside0.mk hF
        refine norm_ (a' := ?_) ?_ ?_; rotate_left; (·simp only [putAll, Act.put, List.setIfInBounds_toArray, List.set_cons_zero, List.set_cons_succ]; rfl)
        refine last_ (i := 11) (N := none) #[true, true, true, true, true, true, true, true, true, true, true, true, false] rfl rfl (by kernel_rfl) (by decide) (fun K hK => ?_)
        have x0 := (blk_cell hX 0).trans rfl
        have y0 := blk_frozen hX 0
        have x1 := (blk_cell hX 1).trans rfl
        have y1 := blk_frozen hX 1
        have x2 := (blk_cell hX 2).trans rfl
        have y2 := blk_frozen hX 2
        refine skip_ (w1 := ?_) (by rfl) rfl ?_ ?_
        rotate_left
        · go_simp
          rfl
        refine hK.out _ _ ?_
        clear hK K
        refine pure_ (i := 12) (N := some 7) (v := ?_) (a' := ?_) #[true, true, true, true, true, true, true, true, true, true, true, true, true] rfl rfl (by kernel_rfl) (fun _ _ _ h => h) (Or.inl ⟨by rfl, ?_⟩) ?_ ?_; rotate_left; (·intro w'; go_simp; with_reducible rfl); rotate_left; (·simp only [Act.put, s1orIs, s2orIs, s3orIs, i64_w, i32_w, Nat.reduceAdd]; rfl)
        refine done_ (by kernel_rfl) ?_
        go_wp2_with fail
        go_meet
        exact ⟨x, A2, B2, rfl, rfl, hxg, hxo, (put3 _ _ _ hX).1, Aside0.mk (hF.out.far hxo hxg hX _ _ _), rowW_set hCA hX _ _ _, rowN_set hCB hX _ _ _⟩
      case rest =>
        clear hF hraw hop hap
        obtain ⟨x, A2, B2, rfl, rfl, hxg, hxo, hX, hF, hRA, hRB⟩ := hcut
        by_cases h0 : R.2.2.2 = 0
        · have hr := hst.out.1 h0
          have b1 : (R.2.2.2 != 0) = false := by rw [h0]; rfl
          clear h0 hst
          have x0 := (blk_cell hX 0).trans rfl
          have x1 := (blk_cell hX 1).trans rfl
          have x2 := (blk_cell hX 2).trans rfl
          have hr' := Lib.hid hr
          have hsm3 := Lib.hid hsm2
          go_wp2_with (first | (go_at_call 14; refine (Ri.right_any R.1 A2 B2 _ _ R.2.1 R.2.2.1 _ (rowW_C hRA) (Nat.le_refl _) (rowN_C hRB) (Nat.le_refl _) hsm2).mono ?_; rintro r w7 ⟨rfl, hb7⟩; rw [hr'.out]; have hX7 := blk_below hX hb7; have hF7 := Aside0.mk (hF.out.below hb7); have x0 := (blk_cell hX7 0).trans rfl; have x1 := (blk_cell hX7 1).trans rfl; have x2 := (blk_cell hX7 2).trans rfl; have g0 := (blk_cell hF7.out.1 0).trans rfl; have g1 := (blk_cell hF7.out.1 1).trans rfl; have g2 := (blk_cell hF7.out.1 2).trans rfl; have y0 := blk_frozen hF7.out.1 0; have y1 := blk_frozen hF7.out.1 1; have y2 := blk_frozen hF7.out.1 2))
          go_roundg m
          case measure => omega
          case rel => exact ⟨i + 1, R.1, A2, B2, _, _, R.2.1, R.2.2.1, by first | rfl | (simp; done), by omega, hr'.out, Nat.le_refl _, Nat.le_refl _, hsm3.out, Aside0.mk ⟨(put3 _ _ _ hF7.out.1).1, rowW_set (rowW_below hRA hb7) hF7.out.1 _ _ _, rowN_set (rowN_below hRB hb7) hF7.out.1 _ _ _, ((hF7.out.2.2.2.setCell (p := ⟨g, 0, none⟩) hge'.out _).setCell (p := ⟨g, 1, none⟩) hge'.out _).setCell (p := ⟨g, 2, none⟩) hge'.out _⟩⟩
        · have b1 : (R.2.2.2 != 0) = true := bne_iff_ne.mpr h0
          obtain ⟨z1, z2, z3⟩ := hst.out.2 h0
          rw [z1, z2, z3] at hX
          clear h0 hst z1 z2 z3
          have x0 := (blk_cell hX 0).trans rfl
          have x1 := (blk_cell hX 1).trans rfl
          have x2 := (blk_cell hX 2).trans rfl
          go_wp2_with fail
          go_roundg m
          case measure => omega
          case rel => exact ⟨i + 1, e, A, B, c, d, ws, ns, by first | rfl | (simp; done), by omega, hrs, hlc, hld, hsm, hF⟩
    · by_cases hl2 : i < l.length
      · have d1 : decide ((i : Int) < (l.length : Int)) = true := by simp; exact hl2
        have d2 : decide ((i : Int) < 60) = false := by simp; omega
        have g0 := (blk_cell hF.out.1 0).trans rfl
        have g1 := (blk_cell hF.out.1 1).trans rfl
        have g2 := (blk_cell hF.out.1 2).trans rfl
        have hrs' := Lib.hid hrs
        go_wp2_with (first | (go_at_call 14; refine (Ri.right_any e A B c d ws ns _ (rowW_C hF.out.2.1) hlc (rowN_C hF.out.2.2.1) hld hsm).mono ?_; rintro r w7 ⟨rfl, hb7⟩; rw [hrs'.out]))
        go_ret
        exact ⟨rfl, below_then hF.out.2.2.2 hF.out.2.2.2.size hb7⟩
      · have d1 : decide ((i : Int) < (l.length : Int)) = false := by simp; omega
        have g0 := (blk_cell hF.out.1 0).trans rfl
        have g1 := (blk_cell hF.out.1 1).trans rfl
        have g2 := (blk_cell hF.out.1 2).trans rfl
        have hrs' := Lib.hid hrs
        go_wp2_with (first | (go_at_call 14; refine (Ri.right_any e A B c d ws ns _ (rowW_C hF.out.2.1) hlc (rowN_C hF.out.2.2.1) hld hsm).mono ?_; rintro r w7 ⟨rfl, hb7⟩; rw [hrs'.out]))
        go_ret
        exact ⟨rfl, below_then hF.out.2.2.2 hF.out.2.2.2.size hb7⟩
end Go.Proofs.YtldlkbjbfgieeaaGreatDoor.Is
