/- The law's State: raw operations, done one behind the other by the document's Apply. -/
/- thin -/
import Derived.Test.YtldlkbjbfgieeaaGreatDoorRa
import Derived.Test.YtldlkbjbfgieeaaGreatDoorMo
import Derived.Test.YtldlkbjbfgieeaaGreatDoorIb
import Derived.Test.YtldlkbjbfgieeaaGreatDoorLk
namespace Go.Proofs.YtldlkbjbfgieeaaGreatDoor.Sb
set_option linter.unusedVariables false
set_option linter.unusedSimpArgs false
open Go.RowKit Go.Proofs.YtldlkbjbfgieeaaGreatDoorW.PrintWords Go.Proofs.YtldlkbjbfgieeaaGreatDoorW.PrintLast Mo Q Rw Cb Ch Ap Go.Proofs.YtldlkbjbfgieeaaGreatDoor.St Su Ft Go.Proofs.YtldlkbjbfgieeaaGreatDoor.Op Of
open Go.Proofs.YtldlkbjbfgieeaaGreatDoor.La (In64 raw)
open Go.Proofs.YtldlkbjbfgieeaaGreatDoor.Ri (rightS rightO stV Small)
open Go.Proofs.YtldlkbjbfgieeaaGreatDoor.Is (RawAt up)
open Go.Proofs.YtldlkbjbfgieeaaGreatDoor.Ra (RaPost rapply_any)
/-- texts are short -/
def Sm (ws : List W) (ns : List N) : Prop := (∀ x ∈ ws, x.f5.size < 100) ∧ ∀ y ∈ ns, y.f3.size < 200
theorem Sm.small {ws : List W} {ns : List N} (h : Sm ws ns) : Small ws ns := ⟨fun x hx => by have := h.1 x hx; omega, fun x hx => by have := h.2 x hx; omega⟩
theorem apply_sm {e : Int} {ws : List W} {ns : List N} {k : Int} {x : W} {y : N} {id : ByteArray} {want : Int} (hs : Sm ws ns) (hx : x.f5.size < 100) (hy : y.f3.size < 200) : Sm (applyS e ws ns k x y id want).2.1 (applyS e ws ns k x y id want).2.2.1 := by
 have nil : Sm [] [] := ⟨fun z h => (by cases h), fun z h => (by cases h)⟩
 unfold applyS
 split
 ·split
  ·unfold chS
   split
   ·unfold PuW.putS
    split
    ·exact ⟨fun z h => (by cases h), hs.2⟩
    ·split
     ·exact ⟨fun z h => (by cases h), hs.2⟩
     ·refine ⟨fun z h => ?_, hs.2⟩
      rcases List.mem_append.1 h with h | h
      ·exact hs.1 z (List.mem_of_mem_take h)
      ·rcases List.mem_cons.1 h with rfl | h
       ·exact hx
       ·exact hs.1 z (List.mem_of_mem_drop h)
   split
   ·unfold PuN.putS
    split
    ·exact ⟨hs.1, fun z h => (by cases h)⟩
    ·split
     ·exact ⟨hs.1, fun z h => (by cases h)⟩
     ·refine ⟨hs.1, fun z h => ?_⟩
      rcases List.mem_append.1 h with h | h
      ·exact hs.2 z (List.mem_of_mem_take h)
      ·rcases List.mem_cons.1 h with rfl | h
       ·exact hy
       ·exact hs.2 z (List.mem_of_mem_drop h)
   split
   ·split
    ·exact nil
    ·exact hs
   split
   ·split
    ·rename_i hh
     refine ⟨fun z h => ?_, hs.2⟩
     rcases List.mem_or_eq_of_mem_set h with h | rfl
     ·exact hs.1 z h
     ·show (ws.getD (FiW.pos ws id) z32).f5.size < 100
      refine hs.1 _ ?_
      rw [List.getD_eq_getElem?_getD, List.getElem?_eq_getElem (has_lt hh)]
      exact List.getElem_mem _
    ·exact nil
   split
   ·split
    ·refine ⟨fun z h => ?_, hs.2⟩
     rcases List.mem_append.1 h with h | h
     ·exact hs.1 z (List.mem_of_mem_take h)
     ·exact hs.1 z (List.mem_of_mem_drop h)
    ·exact nil
   split
   ·split
    ·refine ⟨hs.1, fun z h => ?_⟩
     rcases List.mem_append.1 h with h | h
     ·exact hs.2 z (List.mem_of_mem_take h)
     ·exact hs.2 z (List.mem_of_mem_drop h)
    ·exact nil
   split
   ·rename_i hh
    refine ⟨hs.1, fun z h => ?_⟩
    rcases List.mem_or_eq_of_mem_set h with h | rfl
    ·exact hs.2 z h
    ·show (ns.getD (FiN.pos ns id) z34).f3.size < 200
     refine hs.2 _ ?_
     rw [List.getD_eq_getElem?_getD, List.getElem?_eq_getElem (has_ltN hh)]
     exact List.getElem_mem _
   ·exact nil
  ·exact nil
 ·exact nil
theorem opX_sm {rk : Int} {nm : ByteArray} {l : List Int} {T : ByteArray} (h : T.size < 100) : (opX rk nm l T).f5.size < 100 := by
 unfold opX
 split
 ·show (if pk (at_ l 4) 3 = 2 then T else ⟨#[]⟩).size < 100
  split
  ·omega
  ·decide
 ·show ByteArray.size ⟨#[]⟩ < _
  decide
theorem opY_sm {rk : Int} {nm : ByteArray} {l : List Int} {L : ByteArray} (h : L.size < 200) : (opY rk nm l L).f3.size < 200 := by
 unfold opY
 split
 ·show (if pk (at_ l 2) 2 = 1 then L else ⟨#[]⟩).size < 200
  split
  ·omega
  ·decide
 ·show ByteArray.size ⟨#[]⟩ < _
  decide
abbrev RvW (w0 w : World) (V : Value) (l : List W) : Prop := k32.R 32 w w0.heap.size (fun _ => True) V l
abbrev RvN (w0 w : World) (V : Value) (l : List N) : Prop := k34.R 34 w w0.heap.size (fun _ => True) V l
theorem rowW_below {w0 w w' : World} {V : Value} {l : List W} (h : RvW w0 w V l) (hb : Below w.heap.size w w') : RvW w0 w' V l := Kd.R_below h hb
theorem rowN_below {w0 w w' : World} {V : Value} {l : List N} (h : RvN w0 w V l) (hb : Below w.heap.size w w') : RvN w0 w' V l := Kd.R_below h hb
theorem rowW_lower {w0 w1 w : World} {V : Value} {l : List W} (h : RvW w1 w V l) (hb : w0.heap.size ≤ w1.heap.size) : RvW w0 w V l := Kd.R_lower h hb
theorem rowN_lower {w0 w1 w : World} {V : Value} {l : List N} (h : RvN w1 w V l) (hb : w0.heap.size ≤ w1.heap.size) : RvN w0 w V l := Kd.R_lower h hb
theorem rowW_C {w0 w : World} {A : Option Addr} {n c : Nat} {l : List W} (h : RvW w0 w (.slice A n c) l) : Kd.C k32 w A l.length l := (Kd.R_reads' h).2.2
theorem rowN_C {w0 w : World} {A : Option Addr} {n c : Nat} {l : List N} (h : RvN w0 w (.slice A n c) l) : Kd.C k34 w A l.length l := (Kd.R_reads' h).2.2
theorem rowW_set {w0 w : World} {V : Value} {l : List W} {g : Nat} {cs : Array Value} (h : RvW w0 w V l) (hb : w.heap[g]? = some (.cells cs 27 (0, 0))) (a0 a1 a2 : Value) : RvW w0 (((w.setCell ⟨g, 0, none⟩ a0).setCell ⟨g, 1, none⟩ a1).setCell ⟨g, 2, none⟩ a2) V l := R_put3 h hb (by decide) a0 a1 a2
theorem rowN_set {w0 w : World} {V : Value} {l : List N} {g : Nat} {cs : Array Value} (h : RvN w0 w V l) (hb : w.heap[g]? = some (.cells cs 27 (0, 0))) (a0 a1 a2 : Value) : RvN w0 (((w.setCell ⟨g, 0, none⟩ a0).setCell ⟨g, 1, none⟩ a1).setCell ⟨g, 2, none⟩ a2) V l := R_put3 h hb (by decide) a0 a1 a2
/-- the state s between the rounds, and the result's cell -/
def Fv (w w' : World) (r g : Nat) (e : Int) (V U : Value) (ws : List W) (ns : List N) : Prop := w'.heap[r]? = some (.cells #[.int .i64 0, .slice none 0 0, .slice none 0 0] 27 (0, 0)) ∧ w'.heap[g]? = some (.cells #[.int .i64 e, V, U] 27 (0, 0)) ∧ RvW w w' V ws ∧ RvN w w' U ns ∧ Below w.heap.size w w'
theorem Fv.below {w w' w2 : World} {r g : Nat} {e : Int} {V U : Value} {ws : List W} {ns : List N} (h : Fv w w' r g e V U ws ns) (hb : Below w'.heap.size w' w2) : Fv w w2 r g e V U ws ns := ⟨blk_below h.1 hb, blk_below h.2.1 hb, rowW_below h.2.2.1 hb, rowN_below h.2.2.2.1 hb, below_then h.2.2.2.2 h.2.2.2.2.size hb⟩
theorem Fv.far {w w' : World} {r g x : Nat} {e : Int} {V U : Value} {ws : List W} {ns : List N} {cs : Array Value} (h : Fv w w' r g e V U ws ns) (hx : g ≠ x) (hr : r ≠ x) (hge : w.heap.size ≤ x) (hb : w'.heap[x]? = some (.cells cs 27 (0, 0))) (a0 a1 a2 : Value) : Fv w (((w'.setCell ⟨x, 0, none⟩ a0).setCell ⟨x, 1, none⟩ a1).setCell ⟨x, 2, none⟩ a2) r g e V U ws ns :=
 ⟨blk_far (p := ⟨x, 2, none⟩) (blk_far (p := ⟨x, 1, none⟩) (blk_far (p := ⟨x, 0, none⟩) h.1 hr a0) hr a1) hr a2, blk_far (p := ⟨x, 2, none⟩) (blk_far (p := ⟨x, 1, none⟩) (blk_far (p := ⟨x, 0, none⟩) h.2.1 hx a0) hx a1) hx a2, rowW_set h.2.2.1 hb a0 a1 a2, rowN_set h.2.2.2.1 hb a0 a1 a2, ((h.2.2.2.2.setCell (p := ⟨x, 0, none⟩) hge a0).setCell (p := ⟨x, 1, none⟩) hge a1).setCell (p := ⟨x, 2, none⟩) hge a2⟩
theorem Fv.put {w w' : World} {r g : Nat} {e e1 : Int} {V U V1 U1 : Value} {ws ws1 : List W} {ns ns1 : List N} (h : Fv w w' r g e V U ws ns) (hr : r ≠ g) (hge : w.heap.size ≤ g) (h1 : RvW w w' V1 ws1) (h2 : RvN w w' U1 ns1) : Fv w (((w'.setCell ⟨g, 0, none⟩ (.int .i64 e1)).setCell ⟨g, 1, none⟩ V1).setCell ⟨g, 2, none⟩ U1) r g e1 V1 U1 ws1 ns1 :=
 ⟨blk_far (p := ⟨g, 2, none⟩) (blk_far (p := ⟨g, 1, none⟩) (blk_far (p := ⟨g, 0, none⟩) h.1 hr _) hr _) hr _, (put3 _ _ _ h.2.1).1, rowW_set h1 h.2.1 _ _ _, rowN_set h2 h.2.1 _ _ _, ((h.2.2.2.2.setCell (p := ⟨g, 0, none⟩) hge _).setCell (p := ⟨g, 1, none⟩) hge _).setCell (p := ⟨g, 2, none⟩) hge _⟩
theorem sOf {w w' : World} {r g : Nat} {e : Int} {V U : Value} {ws : List W} {ns : List N} (h : Fv w w' r g e V U ws ns) {ra : Addr} {X : S40} {Ar : Option Addr} {cr : Nat} (hr : RawAt w ra X Ar cr) :
 w'.cell? ⟨g, 0, none⟩ = some (.int .i64 e) ∧ w'.cell? ⟨g, 1, none⟩ = some V ∧ w'.cell? ⟨g, 2, none⟩ = some U ∧ w'.cell? ra = some (.int .i64 X.f0) ∧ w'.cell? ⟨ra.block, ra.off + 1, none⟩ = some (.int .i64 X.f1) ∧ w'.cell? ⟨ra.block, ra.off + 2, none⟩ = some (.int .i64 X.f2) ∧ w'.cell? ⟨ra.block, ra.off + 3, none⟩ = some (.slice Ar X.f3.length cr) :=
 ⟨(blk_cell h.2.1 0).trans rfl, (blk_cell h.2.1 1).trans rfl, (blk_cell h.2.1 2).trans rfl, up h.2.2.2.2 hr.1, up h.2.2.2.2 hr.2.1, up h.2.2.2.2 hr.2.2.1, up h.2.2.2.2 hr.2.2.2⟩
/-- what State gives: a right state of its own, of few epochs -/
def SaPost (w : World) (e : Ending) (w' : World) : Prop := ∃ (ep : Int) (ws : List W) (ns : List N) (A B : Option Addr) (c d : Nat), e = .returned (stV ep A ws.length c B ns.length d) ∧ RvW w w' (.slice A ws.length c) ws ∧ RvN w w' (.slice B ns.length d) ns ∧ ws.length ≤ c ∧ ns.length ≤ d ∧ rightS ep ws ns = true ∧ Sm ws ns ∧ ep ≤ 40 ∧ Below w.heap.size w w'
theorem opX_id {rk : Int} {nm : ByteArray} {l : List Int} {T : ByteArray} (h : kOf rk = 1) : (opX rk nm l T).f0 = nm := by unfold opX; rw [if_pos h]
theorem opY_id {rk : Int} {nm : ByteArray} {l : List Int} {L : ByteArray} (h : kOf rk = 4) : (opY rk nm l L).f0 = nm := by unfold opY; rw [if_pos h]
theorem ep_le {e : Int} {ws : List W} {ns : List N} {k : Int} {x : W} {y : N} {id : ByteArray} {want : Int} (hs : rightS e ws ns = true) (ho : rightO k x y id want = true) (hk1 : k = 1 → x.f0 = id) (hk4 : k = 4 → y.f0 = id) (he : e < 1099511627776) (h0 : (applyS e ws ns k x y id want).2.2.2 = 0) : (applyS e ws ns k x y id want).1 ≤ e + 1 := by
 rw [((Lk.ap_look hs ho hk1 hk4 he).2 h0).ep]; split <;> omega
set_option maxHeartbeats 8000000 in
set_option maxRecDepth 100000 in
theorem state_any (A0 : Option Addr) (c0 : Nat) (l : List S40) (w : World) (hl : Kd.C k40 w A0 l.length l) (hc : l.length ≤ c0) (hV : ∀ x ∈ l, In64 x.f0 ∧ In64 x.f1 ∧ In64 x.f2 ∧ ∀ z ∈ x.f3, In64 z) :
 Calls Tryz.prog 15 #[.slice A0 l.length c0] w (SaPost w) := by
 have hF := Aside0.mk (show Fv w ((w.alloc stZ).alloc stZ) w.heap.size (w.alloc stZ).heap.size 0 (.slice none 0 0) (.slice none 0 0) [] [] from ⟨blk_alloc (blk_new w stZ) stZ, blk_new _ stZ, Kd.R_nil _ _ _ _ _, Kd.R_nil _ _ _ _ _, below_alloc (below_alloc (Below.refl _ _) stZ) stZ⟩)
 have hge : w.heap.size ≤ (w.alloc stZ).heap.size := (below_alloc (Below.refl w.heap.size w) stZ).size
 have hrg : w.heap.size ≠ (w.alloc stZ).heap.size := Nat.ne_of_lt (blk_lt (blk_new w stZ))
 obtain ⟨r, hr⟩ : ∃ r, r = w.heap.size := ⟨_, rfl⟩
 obtain ⟨g, hg⟩ : ∃ g, g = w.heap.size + 1 := ⟨_, rfl⟩
 have hg2 : (w.alloc stZ).heap.size = g := by simp [hg]
 rw [hg2] at hF hge hrg
 rw [show Fv w ((w.alloc stZ).alloc stZ) w.heap.size g 0 (.slice none 0 0) (.slice none 0 0) [] [] = Fv w ((w.alloc stZ).alloc stZ) r g 0 (.slice none 0 0) (.slice none 0 0) [] [] from by rw [hr]] at hF
 rw [show (w.heap.size ≠ g) = (r ≠ g) from by rw [hr]] at hrg
 have hr' := Lib.hid hr
 have hg' := Lib.hid hg
 have hge' := Lib.hid hge
 have hrg' := Lib.hid hrg
 clear hr hg hg2 hge hrg
 go_enter Tryz.func15, Tryz.ntmps15
 go_wp2_with fail
 rw [← hg'.out, ← hr'.out]
 revert hF
 generalize (w.alloc stZ).alloc stZ = wa
 intro hF
 go_loopg [4] 40 (fun kq v5 w' => ∃ (i : Nat) (e : Int) (A B : Option Addr) (c d : Nat) (ws : List W) (ns : List N), v5 = .int .i64 (i : Int) ∧ i + kq = 40 ∧ rightS e ws ns = true ∧ e ≤ (i : Int) ∧ ws.length ≤ c ∧ ns.length ≤ d ∧ Sm ws ns ∧ Aside0 (Fv w w' r g e (.slice A ws.length c) (.slice B ns.length d) ws ns))
 case atStart => exact ⟨0, 0, none, none, 0, 0, [], [], rfl, rfl, by decide, Int.le_refl _, Nat.le_refl _, Nat.le_refl _, ⟨fun z h => (by cases h), fun z h => (by cases h)⟩, hF⟩
 case round =>
  clear hF
  obtain ⟨i, e, A, B, c, d, ws, ns, rfl, hik, hrs, hei, hlc, hld, hsm, hF⟩ := hrel
  by_cases h1 : i < l.length ∧ i < 40
  ·obtain ⟨m, rfl⟩ : ∃ m, gk = m + 1 := ⟨gk - 1, by omega⟩
   have d1 : decide ((i : Int) < (l.length : Int)) = true := by simp; exact h1.1
   have d2 : decide ((i : Int) < 40) = true := by simp; omega
   obtain ⟨ad, Ar, cr, rfl, k0, k1, k2, k3, hcr, hCr⟩ := at_T40 hl (i : Int) (by omega) (by omega)
   have hX := hV (rd_T40 l (i : Int)) (by
    unfold rd_T40
    rw [Int.toNat_natCast, List.getD_eq_getElem?_getD, List.getElem?_eq_getElem h1.1]
    exact List.getElem_mem _)
   generalize rd_T40 l (i : Int) = X at *
   rw [Int.toNat_natCast] at k0 k1 k2 k3
   have hraw : RawAt w (ad.add (i * 4)) X Ar cr := ⟨k0, k1, k2, k3⟩
   clear k0 k1 k2 k3
   obtain ⟨T, L, kL, e1, e2, e3, e4, e5, e6⟩ := op_right hX.1 hX.2.1 hX.2.2.1 hX.2.2.2
   have hop := Lib.hid (fun W (hB : Below w.heap.size w W) => op_any X.f0 X.f1 X.f2 Ar cr X.f3 _ T L kL W hcr (Kd.C_below hCr hB) e1 e2 e3)
   have hsx : (opX X.f0 (nine (raw X.f1 % 9)) X.f3 T).f5.size < 100 := opX_sm e4
   have hsy : (opY X.f0 (nine (raw X.f1 % 9)) X.f3 L).f3.size < 200 := opY_sm e5
   have hep := Lib.hid (fun h0 => ep_le (e := e) (ws := ws) (ns := ns) hrs e6 opX_id opY_id (by omega) h0)
   generalize kOf X.f0 = kk at *
   generalize opX X.f0 (nine (raw X.f1 % 9)) X.f3 T = xx at *
   generalize opY X.f0 (nine (raw X.f1 % 9)) X.f3 L = yy at *
   generalize nine (raw X.f1 % 9) = nm at *
   generalize pk X.f2 17 = wn at *
   clear e1 e2 e3 e4 e5 e6 hX hCr hcr
   have hst := apply_stays (e := e) (ws := ws) (ns := ns) (k := kk) (x := xx) (y := yy) (id := nm) (want := wn)
   have hsm2 := apply_sm (e := e) (k := kk) (id := nm) (want := wn) hsm hsx hsy
   have hap0 := fun W (hA : Kd.C k32 W A ws.length ws) (hN : Kd.C k34 W B ns.length ns) => rapply_any e A B c d ws ns kk xx yy nm wn W hA hlc hN hld hsm.small (by omega) (by omega)
   generalize applyS e ws ns kk xx yy nm wn = R at *
   have hap := Lib.hid hap0
   clear hap0
   have hst := Lib.hid hst
   clear hsx hsy
   have p1 : (0 ≤ (i : Int)) = True := eq_true (by omega)
   have q1 : ((i : Int) < (l.length : Int)) = True := eq_true (by omega)
   replace hei := Lib.hid hei
   go_wp2_with fail
   go_cut [5, 6] (fun s5 s6 wx => ∃ (x : Nat) (A2 B2 : Value), s5 = .pointer (some ⟨x, 0, none⟩) ∧ s6 = .int .i64 R.2.2.2 ∧ w.heap.size ≤ x ∧ g ≠ x ∧ r ≠ x ∧ wx.heap[x]? = some (.cells #[.int .i64 R.1, A2, B2] 27 (0, 0)) ∧ Aside0 (Fv w wx r g e (.slice A ws.length c) (.slice B ns.length d) ws ns) ∧ RvW w wx A2 R.2.1 ∧ RvN w wx B2 R.2.2.1)
   case first =>
    refine start_ (n := 13) (S := fun w' => w'.cell? ⟨g, 0, none⟩ = some (.int .i64 e) ∧ w'.cell? ⟨g, 1, none⟩ = some (.slice A ws.length c) ∧ w'.cell? ⟨g, 2, none⟩ = some (.slice B ns.length d) ∧ w'.cell? (ad.add (i * 4)) = some (.int .i64 X.f0) ∧ w'.cell? ⟨(ad.add (i * 4)).block, (ad.add (i * 4)).off + 1, none⟩ = some (.int .i64 X.f1) ∧ w'.cell? ⟨(ad.add (i * 4)).block, (ad.add (i * 4)).off + 2, none⟩ = some (.int .i64 X.f2) ∧ w'.cell? ⟨(ad.add (i * 4)).block, (ad.add (i * 4)).off + 3, none⟩ = some (.slice Ar X.f3.length cr)) (ds := [11]) (bt 13 0) (by kernel_rfl) rfl (by kernel_rfl) (sOf hF.out hraw) (fun hHeld => ?_)
    replace hF := Aside0.mk (hF.out.below (below_drew (Below.refl _ _)))
    generalize wr.drew = wd at *
    refine ty 0 18 (bt 13 1) rfl rfl hHeld (h := ?_)
    refine py 1 19 (bt 13 3) rfl rfl (h := ?_)
    refine py 2 20 (bt 13 7) rfl rfl (h := ?_)
    refine py 3 21 (bt 13 15) rfl rfl (h := ?_)
    refine ty 4 22 (bt 13 31) rfl rfl hHeld (h := ?_)
    refine join_ (σ := Nat × Value × Value) 2 (bt 13 2047) (fun s_ => [(23, opV kk xx yy nm wn), (24, .tuple #[.agg #[.int .i64 R.1, s_.2.1, s_.2.2], .int .i64 R.2.2.2]), (17, .tuple #[.agg #[.int .i64 R.1, s_.2.1, s_.2.2], .int .i64 R.2.2.2]), (25, .agg #[.int .i64 R.1, s_.2.1, s_.2.2]), (26, .int .i64 R.2.2.2), (5, .pointer (some ⟨s_.1, 0, none⟩))]) (fun s_ w' => w.heap.size ≤ s_.1 ∧ g ≠ s_.1 ∧ r ≠ s_.1 ∧ w'.heap[s_.1]? = some (.cells #[.int .i64 0, .slice none 0 0, .slice none 0 0] 27 (0, 0)) ∧ Fv w w' r g e (.slice A ws.length c) (.slice B ns.length d) ws ns ∧ RvW w w' s_.2.1 R.2.1 ∧ RvN w w' s_.2.2 R.2.2.1) ?_ (fun hJ => ?_)
    rotate_left
    ·refine two_ (i := 5) (j := 10) (Ni := some 23) (Nj := some 5) (bt 13 63) (bt 13 1055) rfl rfl rfl rfl (by kernel_rfl) (by decide) (by decide) (fun K hK => ?_) (fun K hK => ?_)
     rotate_left
     ·refine puts_ (some 5) (by rfl) rfl (v := .pointer (some ⟨wd.heap.size, 0, none⟩)) (w1 := wd.alloc stZ) (by first | (go_simp; done) | (go_simp; rfl)) ?_; have hFa := Aside0.mk (hF.out.below (below_alloc (Below.refl _ _) stZ)); have hx := blk_new wd stZ; have hxg := hF.out.2.2.2.2.size; have hxo := Nat.ne_of_lt (blk_lt hF.out.2.1); have hxr := Nat.ne_of_lt (blk_lt hF.out.1); refine hK.out _ _ (sOf hFa.out hraw) (fun hHeld => ?_); clear hK K; refine ny (h := ?_)
      refine oe 5 23 (bt 13 1087) rfl rfl (fun K hK => ?_); refine goes_ Tryz.func13 (by kernel_rfl) rfl #[.agg #[.int .i64 X.f0, .int .i64 X.f1, .int .i64 X.f2, .slice Ar X.f3.length cr]] (by rfl) rfl rfl (by (try simp only [List.map_toArray, List.map_cons, List.map_nil]); rfl) ?_; refine (hop.out _ hFa.out.2.2.2.2).mono ?_; rintro e w5 ⟨rfl, hb5⟩; have hF5 := Aside0.mk (hFa.out.below hb5); have hx5 := blk_below hx hb5; refine ⟨_, rfl, ?_⟩; refine hK.out _ _ (sOf hF5.out hraw) (fun hHeld => ?_); clear hK K; refine ny (h := ?_)
      refine oe 6 24 (bt 13 1151) rfl rfl (fun K hK => ?_); refine goes_ Tryz.func18 (by kernel_rfl) rfl #[stV e A ws.length c B ns.length d, opV kk xx yy nm wn] (by rfl) rfl rfl (by (try simp only [List.map_toArray, List.map_cons, List.map_nil]); rfl) ?_; refine (hap.out _ (rowW_C hF5.out.2.2.1) (rowN_C hF5.out.2.2.2.1)).mono ?_; rintro e w6 ⟨A2, B2, rfl, hRA, hRB, hb6⟩; have hF6 := Aside0.mk (hF5.out.below hb6); have hCA := rowW_lower hRA (hF5.out.2.2.2.2.size); have hCB := rowN_lower hRB (hF5.out.2.2.2.2.size); have hx6 := blk_below hx5 hb6; refine ⟨_, rfl, ?_⟩; refine hK.out _ _ (sOf hF6.out hraw) (fun hHeld => ?_); clear hK K; refine ny (h := ?_)
      refine py 7 17 (bt 13 1279) rfl rfl (h := ?_)
      refine py 8 25 (bt 13 1535) rfl rfl (h := ?_)
      refine py 9 26 (bt 13 2047) rfl rfl (h := ?_)
      exact na (hJ (_, A2, B2) _ ⟨hxg, hxo, hxr, hx6, hF6.out, hCA, hCB⟩)
     refine goes_ Tryz.func13 (by kernel_rfl) rfl #[.agg #[.int .i64 X.f0, .int .i64 X.f1, .int .i64 X.f2, .slice Ar X.f3.length cr]] (by rfl) rfl rfl (by (try simp only [List.map_toArray, List.map_cons, List.map_nil]); rfl) ?_; refine (hop.out _ hF.out.2.2.2.2).mono ?_; rintro e w5 ⟨rfl, hb5⟩; have hF5 := Aside0.mk (hF.out.below hb5); refine ⟨_, rfl, ?_⟩; refine hK.out _ _ (sOf hF5.out hraw) (fun hHeld => ?_); clear hK K; refine ny (h := ?_)
     refine two_ (i := 6) (j := 10) (Ni := some 24) (Nj := some 5) (bt 13 127) (bt 13 1087) rfl rfl rfl rfl (by kernel_rfl) (by decide) (by decide) (fun K hK => ?_) (fun K hK => ?_)
     rotate_left
     ·refine puts_ (some 5) (by rfl) rfl (v := .pointer (some ⟨w5.heap.size, 0, none⟩)) (w1 := w5.alloc stZ) (by first | (go_simp; done) | (go_simp; rfl)) ?_; have hFa := Aside0.mk (hF5.out.below (below_alloc (Below.refl _ _) stZ)); have hx := blk_new w5 stZ; have hxg := hF5.out.2.2.2.2.size; have hxo := Nat.ne_of_lt (blk_lt hF5.out.2.1); have hxr := Nat.ne_of_lt (blk_lt hF5.out.1); refine hK.out _ _ (sOf hFa.out hraw) (fun hHeld => ?_); clear hK K; refine ny (h := ?_)
      refine oe 6 24 (bt 13 1151) rfl rfl (fun K hK => ?_); refine goes_ Tryz.func18 (by kernel_rfl) rfl #[stV e A ws.length c B ns.length d, opV kk xx yy nm wn] (by rfl) rfl rfl (by (try simp only [List.map_toArray, List.map_cons, List.map_nil]); rfl) ?_; refine (hap.out _ (rowW_C hFa.out.2.2.1) (rowN_C hFa.out.2.2.2.1)).mono ?_; rintro e w6 ⟨A2, B2, rfl, hRA, hRB, hb6⟩; have hF6 := Aside0.mk (hFa.out.below hb6); have hCA := rowW_lower hRA (hFa.out.2.2.2.2.size); have hCB := rowN_lower hRB (hFa.out.2.2.2.2.size); have hx6 := blk_below hx hb6; refine ⟨_, rfl, ?_⟩; refine hK.out _ _ (sOf hF6.out hraw) (fun hHeld => ?_); clear hK K; refine ny (h := ?_)
      refine py 7 17 (bt 13 1279) rfl rfl (h := ?_)
      refine py 8 25 (bt 13 1535) rfl rfl (h := ?_)
      refine py 9 26 (bt 13 2047) rfl rfl (h := ?_)
      exact na (hJ (_, A2, B2) _ ⟨hxg, hxo, hxr, hx6, hF6.out, hCA, hCB⟩)
     refine goes_ Tryz.func18 (by kernel_rfl) rfl #[stV e A ws.length c B ns.length d, opV kk xx yy nm wn] (by rfl) rfl rfl (by (try simp only [List.map_toArray, List.map_cons, List.map_nil]); rfl) ?_; refine (hap.out _ (rowW_C hF5.out.2.2.1) (rowN_C hF5.out.2.2.2.1)).mono ?_; rintro e w6 ⟨A2, B2, rfl, hRA, hRB, hb6⟩; have hF6 := Aside0.mk (hF5.out.below hb6); have hCA := rowW_lower hRA (hF5.out.2.2.2.2.size); have hCB := rowN_lower hRB (hF5.out.2.2.2.2.size); refine ⟨_, rfl, ?_⟩; refine hK.out _ _ (sOf hF6.out hraw) (fun hHeld => ?_); clear hK K; refine ny (h := ?_)
     refine py 7 17 (bt 13 255) rfl rfl (h := ?_)
     refine py 8 25 (bt 13 511) rfl rfl (h := ?_)
     refine py 9 26 (bt 13 1023) rfl rfl (h := ?_)
     refine oe 10 5 (bt 13 2047) rfl rfl (fun K hK => ?_); refine puts_ (some 5) (by rfl) rfl (v := .pointer (some ⟨w6.heap.size, 0, none⟩)) (w1 := w6.alloc stZ) (by first | (go_simp; done) | (go_simp; rfl)) ?_; have hFa := Aside0.mk (hF6.out.below (below_alloc (Below.refl _ _) stZ)); have hx := blk_new w6 stZ; have hxg := hF6.out.2.2.2.2.size; have hxo := Nat.ne_of_lt (blk_lt hF6.out.2.1); have hxr := Nat.ne_of_lt (blk_lt hF6.out.1); have hCAa := rowW_below hCA (below_alloc (Below.refl _ _) stZ); have hCBa := rowN_below hCB (below_alloc (Below.refl _ _) stZ); refine hK.out _ _ (sOf hFa.out hraw) (fun hHeld => ?_); clear hK K; refine ny (h := ?_)
     exact na (hJ (_, A2, B2) _ ⟨hxg, hxo, hxr, hx, hFa.out, hCAa, hCBa⟩)
    clear hF hHeld
    rintro ⟨x, A2, B2⟩ w6 ⟨hxg, hxo, hxr, hX, hF, hCA, hCB⟩
    replace hF := Aside0.mk hF
    obtain ⟨A3, c3, rfl⟩ := Kd.R_slice hCA
    obtain ⟨B3, d3, rfl⟩ := Kd.R_slice hCB
    refine na ?_
    refine last_ (i := 11) (N := none) (bt 13 4095) rfl rfl (by kernel_rfl) (by decide) (fun K hK => ?_)
    have x0 := (blk_cell hX 0).trans rfl
    have y0 := blk_frozen hX 0
    have x1 := (blk_cell hX 1).trans rfl
    have y1 := blk_frozen hX 1
    have x2 := (blk_cell hX 2).trans rfl
    have y2 := blk_frozen hX 2
    refine sk ?_
    refine hK.out _ _ ?_
    clear hK K
    refine py 12 6 (bt 13 8191) rfl rfl (h := ?_)
    refine done_ (by kernel_rfl) ?_
    go_wp2_with fail
    go_meet
    exact ⟨x, _, _, rfl, rfl, hxg, hxo, hxr, (put3 _ _ _ hX).1, Aside0.mk (hF.out.far hxo hxr hxg hX _ _ _), rowW_set hCA hX _ _ _, rowN_set hCB hX _ _ _⟩
   case rest =>
    clear hF hraw hop hap
    obtain ⟨x, A2, B2, rfl, rfl, hxg, hxo, hxr, hX, hF, hRA, hRB⟩ := hcut
    obtain ⟨A3, c3, rfl⟩ := Kd.R_slice hRA
    obtain ⟨B3, d3, rfl⟩ := Kd.R_slice hRB
    by_cases h0 : R.2.2.2 = 0
    ·have hr := hst.out.1 h0
     have b1 : (R.2.2.2 == 0) = true := by rw [h0]; rfl
     have b2 : decide (R.2.2.2 = 0) = true := decide_eq_true h0
     have hep1 := Lib.hid (hep.out h0)
     clear h0 hst hep
     have x0 := (blk_cell hX 0).trans rfl
     have x1 := (blk_cell hX 1).trans rfl
     have x2 := (blk_cell hX 2).trans rfl
     have g0 := (blk_cell hF.out.2.1 0).trans rfl
     have g1 := (blk_cell hF.out.2.1 1).trans rfl
     have g2 := (blk_cell hF.out.2.1 2).trans rfl
     have y0 := blk_frozen hF.out.2.1 0
     have y1 := blk_frozen hF.out.2.1 1
     have y2 := blk_frozen hF.out.2.1 2
     have hr' := Lib.hid hr
     have hsm3 := Lib.hid hsm2
     go_wp2_with fail
     go_roundg m
     case measure => omega
     case rel =>
      exact ⟨i + 1, R.1, A3, B3, c3, d3, R.2.1, R.2.2.1, by first | rfl | (simp; done), by omega, hr'.out, by have := hep1.out; have := hei.out; omega, (Kd.R_reads' hRA).2.1, (Kd.R_reads' hRB).2.1, hsm3.out, Aside0.mk (hF.out.put hrg'.out hge'.out hRA hRB)⟩
    ·have b1 : (R.2.2.2 == 0) = false := beq_eq_false_iff_ne.mpr h0
     have b2 : decide (R.2.2.2 = 0) = false := decide_eq_false h0
     clear h0 hst
     go_wp2_with fail
     go_roundg m
     case measure => omega
     case rel => exact ⟨i + 1, e, A, B, c, d, ws, ns, by first | rfl | (simp; done), by omega, hrs, by have := hei.out; omega, hlc, hld, hsm, hF⟩
  ·have hi40 : i ≤ 40 := by omega
   have g0 := (blk_cell hF.out.2.1 0).trans rfl
   have g1 := (blk_cell hF.out.2.1 1).trans rfl
   have g2 := (blk_cell hF.out.2.1 2).trans rfl
   have r0 := (blk_cell hF.out.1 0).trans rfl
   have r1 := (blk_cell hF.out.1 1).trans rfl
   have r2 := (blk_cell hF.out.1 2).trans rfl
   have y0 := blk_frozen hF.out.1 0
   have y1 := blk_frozen hF.out.1 1
   have y2 := blk_frozen hF.out.1 2
   have hle := Lib.hid (show e ≤ 40 by omega)
   have hle2 := Lib.hid (show w.heap.size ≤ r by rw [hr'.out]; exact Nat.le_refl _)
   obtain ⟨hZ9, hG9⟩ := put3 (.int .i64 e) (.slice A ws.length c) (.slice B ns.length d) hF.out.1
   replace hZ9 := Lib.hid hZ9
   replace hG9 := Lib.hid hG9
   have hfin := Lib.hid (show SaPost w (.returned (stV e A ws.length c B ns.length d)) (((_ : World).setCell ⟨r, 0, none⟩ (.int .i64 e)).setCell ⟨r, 1, none⟩ (.slice A ws.length c) |>.setCell ⟨r, 2, none⟩ (.slice B ns.length d)) from ⟨e, ws, ns, A, B, c, d, rfl, rowW_set hF.out.2.2.1 hF.out.1 _ _ _, rowN_set hF.out.2.2.2.1 hF.out.1 _ _ _, hlc, hld, hrs, hsm, hle.out, hF.out.2.2.2.2.grown hG9.out hF.out.2.2.2.2.size (fun k e => by injection e with e; have := hle2.out; omega)⟩)
   clear hei
   by_cases hl2 : i < l.length
   ·have d1 : decide ((i : Int) < (l.length : Int)) = true := by simp; exact hl2
    have d2 : decide ((i : Int) < 40) = false := by simp; omega
    go_wp2_with fail
    refine bodyPost_ret (results_cell_row rfl _ _ r 27 _ (0, 0) _ rfl hZ9.out Tryz.underlying27 rfl (by kernel_rfl)) rfl ?_
    exact hfin.out
   ·have d1 : decide ((i : Int) < (l.length : Int)) = false := by simp; omega
    go_wp2_with fail
    refine bodyPost_ret (results_cell_row rfl _ _ r 27 _ (0, 0) _ rfl hZ9.out Tryz.underlying27 rfl (by kernel_rfl)) rfl ?_
    exact hfin.out
end Go.Proofs.YtldlkbjbfgieeaaGreatDoor.Sb
