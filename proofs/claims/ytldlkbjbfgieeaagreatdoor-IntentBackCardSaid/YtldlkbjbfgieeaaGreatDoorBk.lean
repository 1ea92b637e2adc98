/- IntentBack: what is within bounds; GetOp of all kinds. -/
import Derived.Test.YtldlkbjbfgieeaaGreatDoorGo
import Derived.Test.YtldlkbjbfgieeaaGreatDoorSb
import Derived.Test.YtldlkbjbfgieeaaGreatDoorGs
import Derived.Test.YtldlkbjbfgieeaaGreatDoorSy
import Derived.Test.YtldlkbjbfgieeaaGreatDoorMo
import Derived.Test.YtldlkbjbfgieeaaGreatDoorAw
namespace Go.Proofs.YtldlkbjbfgieeaaGreatDoor.Bp
set_option linter.unusedVariables false
set_option linter.unusedSimpArgs false
open Go.RowKit Go.Proofs.YtldlkbjbfgieeaaGreatDoorW.PrintWords Go.Proofs.YtldlkbjbfgieeaaGreatDoorW.PrintLast Mo Q Ch Ap Go.Proofs.YtldlkbjbfgieeaaGreatDoor.Op Pk Su
open Go.Proofs.YtldlkbjbfgieeaaGreatDoor.Ri (rightS rightO rightW rightN rightP stV Small)
theorem nm_le {s : ByteArray} (h : Nm.nm s = true) : s.size ≤ 12 := by
 unfold Nm.nm at h
 simp only [Bool.and_eq_true, decide_eq_true_eq] at h
 exact h.1.2
theorem wOk {x : W} (h : rightW x = true) (h5 : x.f5.size ≤ 200) : okW x := by
 unfold rightW Ri.inB at h
 simp only [Bool.and_eq_true, decide_eq_true_eq] at h
 obtain ⟨⟨⟨⟨⟨h0, _⟩, h1⟩, h2⟩, h3⟩, h4⟩ := h
 have := nm_le h0
 exact ⟨by omega, ⟨by omega, by omega⟩, ⟨by omega, by omega⟩, ⟨by omega, by omega⟩, ⟨by omega, by omega⟩, h5⟩
theorem nOk {y : N} (h : rightN y = true) (h3 : y.f3.size ≤ 200) : okN y := by
 unfold rightN Ri.inB at h
 simp only [Bool.and_eq_true, decide_eq_true_eq] at h
 obtain ⟨⟨⟨h0, _⟩, h1⟩, h2⟩ := h
 have := nm_le h0
 exact ⟨by omega, ⟨by omega, by omega⟩, ⟨by omega, by omega⟩, h3⟩
theorem ws_ok {e : Int} {ws : List W} {ns : List N} (hr : rightS e ws ns = true) (hs : Sb.Sm ws ns) : (∀ x ∈ ws, okW x) ∧ ∀ y ∈ ns, okN y :=
 ⟨fun x hx => wOk ((rightS_iff.1 hr).2.2.2.1.2 x hx).1 (by have := hs.1 x hx; omega), fun y hy => nOk ((rightS_iff.1 hr).2.2.2.2.2 y hy).1 (by have := hs.2 y hy; omega)⟩
theorem opX_ok {rk want : Int} {nm id : ByteArray} {l : List Int} {T : ByteArray} {y : N} (h : rightO (kOf rk) (opX rk nm l T) y id want = true) (hT : (opX rk nm l T).f5.size < 100) : okW (opX rk nm l T) := by
 by_cases hk : kOf rk = 1
 ·rw [hk] at h
  unfold rightO at h
  rw [if_pos rfl] at h
  unfold rightP Ri.goW at h
  simp only [Bool.and_eq_true] at h
  exact wOk h.1.2.1.1 (by omega)
 ·unfold opX
  rw [if_neg hk]
  exact ⟨by decide, ⟨by decide, by decide⟩, ⟨by decide, by decide⟩, ⟨by decide, by decide⟩, ⟨by decide, by decide⟩, by decide⟩
theorem opY_ok {rk want : Int} {nm id : ByteArray} {l : List Int} {L : ByteArray} {x : W} (h : rightO (kOf rk) x (opY rk nm l L) id want = true) (hL : (opY rk nm l L).f3.size < 200) : okN (opY rk nm l L) := by
 by_cases hk : kOf rk = 4
 ·rw [hk] at h
  unfold rightO at h
  rw [if_neg (by decide), if_pos rfl] at h
  unfold rightP Ri.goN at h
  simp only [Bool.and_eq_true] at h
  exact nOk h.2.1.1 (by omega)
 ·unfold opY
  rw [if_neg hk]
  exact ⟨by decide, ⟨by decide, by decide⟩, ⟨by decide, by decide⟩, by decide⟩
theorem g_ok {k : Int} {x : W} {y : N} {id : ByteArray} {want : Int} (hx : okW x) (hy : okN y) (hi : id.size ≤ 200) (hv : In want) : okW (gX k x) ∧ okN (gY k y) ∧ (gI k id).size ≤ 200 ∧ In (gV k want) := by
 unfold gX gY gI gV
 refine ⟨?_, ?_, ?_, ?_⟩ <;> split
 ·exact hx
 ·exact ⟨by decide, ⟨by decide, by decide⟩, ⟨by decide, by decide⟩, ⟨by decide, by decide⟩, ⟨by decide, by decide⟩, by decide⟩
 ·exact hy
 ·exact ⟨by decide, ⟨by decide, by decide⟩, ⟨by decide, by decide⟩, by decide⟩
 ·decide
 ·exact hi
 ·exact hv
 ·exact ⟨by decide, by decide⟩
theorem getOp_any (k : Int) (x : W) (y : N) (id : ByteArray) (want : Int) (w : World) (ho : rightO k x y id want = true) (hx : okW x) (hy : okN y) (hi : id.size ≤ 200) (hv : In want) (p : ByteArray) (hp : p = opB k x y id want) :
 Calls Tryz.prog 21 #[.string p] w fun e w' => e = .returned (.tuple #[opV k (gX k x) (gY k y) (gI k id) (gV k want), .int .i64 0]) ∧ Below w.heap.size w w' := by
 have hk := op_range ho
 have hg := g_ok (k := k) hx hy hi hv
 have hop : ∀ W, Calls Tryz.prog 29 #[opV k (gX k x) (gY k y) (gI k id) (gV k want)] W fun e' w' => e' = .returned (.bool true) ∧ Below W.heap.size W w' := fun W =>
  (Ri.iop_any k (gX k x) (gY k y) (gI k id) (gV k want) W (by have := hg.1.2.2.2.2.2; omega) (by have := hg.2.1.2.2.2; omega)).mono fun e' w' ⟨he, hb⟩ => ⟨by rw [he, Pk.op_right ho], hb⟩
 rcases (show k = 1 ∨ k = 2 ∨ k = 3 ∨ k = 4 ∨ k = 5 ∨ k = 6 ∨ k = 7 ∨ k = 8 from by omega) with rfl | rfl | rfl | rfl | rfl | rfl | rfl | rfl
 ·exact Gop.getOp_1 x y id want w hx hy hi hv p hp hop
 ·exact Gop.getOp_2 x y id want w hx hy hi hv p hp hop
 ·exact Gop.getOp_t 3 (by omega) x y id want w hx hy hi hv p hp hop
 ·exact Gop.getOp_4 x y id want w hx hy hi hv p hp hop
 ·exact Gop.getOp_t 5 (by omega) x y id want w hx hy hi hv p hp hop
 ·exact Gop.getOp_t 6 (by omega) x y id want w hx hy hi hv p hp hop
 ·exact Gop.getOp_t 7 (by omega) x y id want w hx hy hi hv p hp hop
 ·exact Gop.getOp_8 x y id want w hx hy hi hv p hp hop
end Go.Proofs.YtldlkbjbfgieeaaGreatDoor.Bp
namespace Go.Proofs.YtldlkbjbfgieeaaGreatDoor.Bk
set_option linter.unusedVariables false
set_option linter.unusedSimpArgs false
open Go.RowKit Go.Proofs.YtldlkbjbfgieeaaGreatDoorW.PrintWords Go.Proofs.YtldlkbjbfgieeaaGreatDoorW.PrintLast Mo Q Rw Cb Ch Ap Go.Proofs.YtldlkbjbfgieeaaGreatDoor.St Su Ft Go.Proofs.YtldlkbjbfgieeaaGreatDoor.Op Of
open Go.Proofs.YtldlkbjbfgieeaaGreatDoor.La (In64 raw)
open Go.Proofs.YtldlkbjbfgieeaaGreatDoor.Ri (rightS rightO stV Small)
open Pk
open Go.Proofs.YtldlkbjbfgieeaaGreatDoor.Sb (opX_sm opY_sm)
theorem bq {b q : Bool} {p1 p2 : Prop} (h1 : b = true ↔ p1) (h2 : q = true ↔ p2) (h3 : p2 ↔ p1) : b = q := by cases b <;> cases q <;> simp_all
set_option maxHeartbeats 16000000 in
set_option maxRecDepth 100000 in
theorem back_any (haw : ∀ W, Calls Tryz.prog 11 #[] W fun e w' => e = .returned (.bool true) ∧ Below W.heap.size W w') (A0 : Option Addr) (c0 : Nat) (l : List S40) (w : World) (hl : Kd.C k40 w A0 l.length l) (hc : l.length ≤ c0) (hV : ∀ x ∈ l, In64 x.f0 ∧ In64 x.f1 ∧ In64 x.f2 ∧ ∀ z ∈ x.f3, In64 z) (A1 : Option Addr) (c1 : Nat) (m : List S40) (hm : Kd.C k40 w A1 m.length m) (hcm : m.length ≤ c1) (hVm : ∀ x ∈ m, In64 x.f0 ∧ In64 x.f1 ∧ In64 x.f2 ∧ ∀ z ∈ x.f3, In64 z) (X : S40) (Ar : Option Addr) (cr : Nat) (hcr : X.f3.length ≤ cr) (hCr : Kd.C (Kd.int .i64) w Ar X.f3.length X.f3) (hX : In64 X.f0 ∧ In64 X.f1 ∧ In64 X.f2 ∧ ∀ z ∈ X.f3, In64 z) :
 Calls Tryz.prog 10 #[.slice A0 l.length c0, .slice A1 m.length c1, .agg #[.int .i64 X.f0, .int .i64 X.f1, .int .i64 X.f2, .slice Ar X.f3.length cr]] w fun e w' => e = .returned (.bool true) ∧ Below w.heap.size w w' := by
 have hB := below_alloc (Below.refl w.heap.size w) (rawO X.f0 X.f1 X.f2 Ar X.f3.length cr)
 have h3 := blk_new w (rawO X.f0 X.f1 X.f2 Ar X.f3.length cr)
 replace hl := Kd.C_below hl hB
 replace hm := Kd.C_below hm hB
 obtain ⟨b3, hg⟩ : ∃ g, g = w.heap.size := ⟨_, rfl⟩
 rw [← hg] at h3
 replace hg := Lib.hid hg
 obtain ⟨T, L, kL, e1, e2, e3, e4, e5, ho⟩ := op_right hX.1 hX.2.1 hX.2.2.1 hX.2.2.2
 have hop := Lib.hid (fun W (hB : Below w.heap.size w W) => op_any X.f0 X.f1 X.f2 Ar cr X.f3 _ T L kL W hcr (Kd.C_below hCr hB) e1 e2 e3)
 have hsx : (opX X.f0 (nine (raw X.f1 % 9)) X.f3 T).f5.size < 100 := opX_sm e4
 have hsy : (opY X.f0 (nine (raw X.f1 % 9)) X.f3 L).f3.size < 200 := opY_sm e5
 have hxo := Bp.opX_ok ho hsx
 have hyo := Bp.opY_ok ho hsy
 have hwn : In (pk X.f2 17) := by
  have h17 : 0 ≤ pk X.f2 17 ∧ pk X.f2 17 < 17 := by rw [show pk X.f2 17 = ((raw X.f2 % 17 : Nat) : Int) from La.pk_raw hX.2.2.1 17]; omega
  exact ⟨by omega, by omega⟩
 have hnm := (nine_of (i := raw X.f1 % 9) (Nat.mod_lt _ (by decide))).1
 generalize kOf X.f0 = k at *
 generalize opX X.f0 (nine (raw X.f1 % 9)) X.f3 T = x at *
 generalize opY X.f0 (nine (raw X.f1 % 9)) X.f3 L = y at *
 generalize nine (raw X.f1 % 9) = id at *
 generalize pk X.f2 17 = wn at *
 clear e1 e2 e3 e4 e5
 have hid : id.size ≤ 200 := by have := Bp.nm_le hnm; omega
 clear hnm hsx hsy
 go_enter Tryz.func10, Tryz.ntmps10
 go_wp2_with fail
 rw [← hg.out]
 revert hB; revert h3; revert hl; revert hm
 generalize w.alloc (rawO X.f0 X.f1 X.f2 Ar X.f3.length cr) = wa
 intro hm hl h3 hB
 refine (haw _).mono ?_
 rintro e' w1 ⟨rfl, hb1⟩
 replace h3 := blk_below h3 hb1
 replace hB := below_then hB hB.size hb1
 replace hl := Kd.C_below hl hb1
 replace hm := Kd.C_below hm hb1
 clear hb1
 go_wp2_with fail
 refine (Sb.state_any A0 c0 l w1 hl hc hV).mono ?_
 rintro e' w2 ⟨epa, wsa, nsa, Aa, Ba, ca, da, rfl, hAa, hNa, hlca, hlda, hrsa, hsma, hepa, hb⟩
 replace h3 := blk_below h3 hb
 replace hB := below_then hB hB.size hb
 replace hl := Kd.C_below hl hb
 replace hm := Kd.C_below hm hb
 clear hb
 clear hl
 replace hAa := Sb.rowW_C hAa
 replace hNa := Sb.rowN_C hNa
 have hoka := Bp.ws_ok hrsa hsma
 have hria := rightS_iff.1 hrsa
 have hsla := hsma.small
 clear hsma
 have h6 := blk_new w2 (.cells #[.int .i64 epa, .slice Aa wsa.length ca, .slice Ba nsa.length da] 27)
 have qh6 := below_alloc (Below.refl w2.heap.size w2) (.cells #[.int .i64 epa, .slice Aa wsa.length ca, .slice Ba nsa.length da] 27)
 replace h3 := blk_below h3 qh6
 replace hB := below_then hB hB.size qh6
 replace hm := Kd.C_below hm qh6
 replace hAa := Kd.C_below hAa qh6
 replace hNa := Kd.C_below hNa qh6
 clear qh6
 go_wp2_with fail
 generalize (w2.alloc (.cells #[.int .i64 epa, .slice Aa wsa.length ca, .slice Ba nsa.length da] 27)) = w3 at *
 generalize w2.heap.size = b6 at *
 refine (Sb.state_any A1 c1 m w3 hm hcm hVm).mono ?_
 rintro e' w4 ⟨epb, wsb, nsb, Ab, Bb, cb, db, rfl, hAb, hNb, hlcb, hldb, hrsb, hsmb, hepb, hb⟩
 replace h3 := blk_below h3 hb
 replace hB := below_then hB hB.size hb
 replace hm := Kd.C_below hm hb
 replace hAa := Kd.C_below hAa hb
 replace hNa := Kd.C_below hNa hb
 replace h6 := blk_below h6 hb
 clear hb
 clear hm
 replace hAb := Sb.rowW_C hAb
 replace hNb := Sb.rowN_C hNb
 have hokb := Bp.ws_ok hrsb hsmb
 have hrib := rightS_iff.1 hrsb
 have hslb := hsmb.small
 clear hsmb
 have h7 := blk_new w4 (.cells #[.int .i64 epb, .slice Ab wsb.length cb, .slice Bb nsb.length db] 27)
 have qh7 := below_alloc (Below.refl w4.heap.size w4) (.cells #[.int .i64 epb, .slice Ab wsb.length cb, .slice Bb nsb.length db] 27)
 replace h3 := blk_below h3 qh7
 replace hB := below_then hB hB.size qh7
 replace hAa := Kd.C_below hAa qh7
 replace hNa := Kd.C_below hNa qh7
 replace h6 := blk_below h6 qh7
 replace hAb := Kd.C_below hAb qh7
 replace hNb := Kd.C_below hNb qh7
 clear qh7
 have s0 := (blk_cell h6 0).trans rfl
 have s1 := (blk_cell h6 1).trans rfl
 have s2 := (blk_cell h6 2).trans rfl
 go_wp2_with fail
 generalize (w4.alloc (.cells #[.int .i64 epb, .slice Ab wsb.length cb, .slice Bb nsb.length db] 27)) = w5 at *
 generalize w4.heap.size = b7 at *
 refine (Ps.putState_any epa Aa Ba ca da wsa nsa w5 hAa hlca hNa hlda hsla hrsa hoka.1 hoka.2).mono ?_
 rintro e' w6 ⟨rfl, hb⟩
 clear s0 s1 s2
 replace h3 := blk_below h3 hb
 replace hB := below_then hB hB.size hb
 replace hAa := Kd.C_below hAa hb
 replace hNa := Kd.C_below hNa hb
 replace h6 := blk_below h6 hb
 replace hAb := Kd.C_below hAb hb
 replace hNb := Kd.C_below hNb hb
 replace h7 := blk_below h7 hb
 clear hb
 obtain ⟨sa, hsa⟩ : ∃ s, s = stateB epa wsa nsa := ⟨_, rfl⟩
 rw [← hsa]
 replace hsa := Lib.hid hsa
 have t0 := (blk_cell h7 0).trans rfl
 have t1 := (blk_cell h7 1).trans rfl
 have t2 := (blk_cell h7 2).trans rfl
 go_wp2_with fail
 refine (Ps.putState_any epb Ab Bb cb db wsb nsb w6 hAb hlcb hNb hldb hslb hrsb hokb.1 hokb.2).mono ?_
 rintro e' w7 ⟨rfl, hb⟩
 clear t0 t1 t2
 replace h3 := blk_below h3 hb
 replace hB := below_then hB hB.size hb
 replace hAa := Kd.C_below hAa hb
 replace hNa := Kd.C_below hNa hb
 replace h6 := blk_below h6 hb
 replace hAb := Kd.C_below hAb hb
 replace hNb := Kd.C_below hNb hb
 replace h7 := blk_below h7 hb
 clear hb
 obtain ⟨sb, hsb⟩ : ∃ s, s = stateB epb wsb nsb := ⟨_, rfl⟩
 rw [← hsb]
 replace hsb := Lib.hid hsb
 go_wp2_with fail
 refine (Gs.getState_any epa wsa nsa w7 hrsa hoka.1 hoka.2 sa hsa.out).mono ?_
 rintro e' w8 ⟨A2, c2, B2, d2, rfl, hlc2, hld2, hA2, hN2, hb⟩
 replace h3 := blk_below h3 hb
 replace hB := below_then hB hB.size hb
 replace hAa := Kd.C_below hAa hb
 replace hNa := Kd.C_below hNa hb
 replace h6 := blk_below h6 hb
 replace hAb := Kd.C_below hAb hb
 replace hNb := Kd.C_below hNb hb
 replace h7 := blk_below h7 hb
 clear hb
 have h8 := blk_new w8 (.cells #[.int .i64 epa, .slice A2 wsa.length c2, .slice B2 nsa.length d2] 27)
 have qh8 := below_alloc (Below.refl w8.heap.size w8) (.cells #[.int .i64 epa, .slice A2 wsa.length c2, .slice B2 nsa.length d2] 27)
 replace h3 := blk_below h3 qh8
 replace hB := below_then hB hB.size qh8
 replace hAa := Kd.C_below hAa qh8
 replace hNa := Kd.C_below hNa qh8
 replace h6 := blk_below h6 qh8
 replace hAb := Kd.C_below hAb qh8
 replace hNb := Kd.C_below hNb qh8
 replace h7 := blk_below h7 qh8
 replace hA2 := Kd.C_below hA2 qh8
 replace hN2 := Kd.C_below hN2 qh8
 clear qh8
 have r0 := (blk_cell h3 0).trans rfl
 have r1 := (blk_cell h3 1).trans rfl
 have r2 := (blk_cell h3 2).trans rfl
 have r3 := (blk_cell h3 3).trans rfl
 go_wp2_with fail
 generalize (w8.alloc (.cells #[.int .i64 epa, .slice A2 wsa.length c2, .slice B2 nsa.length d2] 27)) = w9 at *
 generalize w8.heap.size = b8 at *
 refine (hop.out w9 hB).mono ?_
 rintro e' w10 ⟨rfl, hb⟩
 clear r0 r1 r2 r3
 replace h3 := blk_below h3 hb
 replace hB := below_then hB hB.size hb
 replace hAa := Kd.C_below hAa hb
 replace hNa := Kd.C_below hNa hb
 replace h6 := blk_below h6 hb
 replace hAb := Kd.C_below hAb hb
 replace hNb := Kd.C_below hNb hb
 replace h7 := blk_below h7 hb
 replace hA2 := Kd.C_below hA2 hb
 replace hN2 := Kd.C_below hN2 hb
 replace h8 := blk_below h8 hb
 clear hb
 go_wp2_with fail
 refine (Pw.putOp_any k x y id wn w10 ho hxo hyo hid hwn (by have := hxo.2.2.2.2.2; omega) (by have := hyo.2.2.2; omega)).mono ?_
 rintro e' w11 ⟨rfl, hb⟩
 replace h3 := blk_below h3 hb
 replace hB := below_then hB hB.size hb
 replace hAa := Kd.C_below hAa hb
 replace hNa := Kd.C_below hNa hb
 replace h6 := blk_below h6 hb
 replace hAb := Kd.C_below hAb hb
 replace hNb := Kd.C_below hNb hb
 replace h7 := blk_below h7 hb
 replace hA2 := Kd.C_below hA2 hb
 replace hN2 := Kd.C_below hN2 hb
 replace h8 := blk_below h8 hb
 clear hb
 obtain ⟨u, hu⟩ : ∃ s, s = opB k x y id wn := ⟨_, rfl⟩
 rw [← hu]
 replace hu := Lib.hid hu
 go_wp2_with fail
 refine (Bp.getOp_any k x y id wn w11 ho hxo hyo hid hwn u hu.out).mono ?_
 rintro e' w12 ⟨rfl, hb⟩
 replace h3 := blk_below h3 hb
 replace hB := below_then hB hB.size hb
 replace hAa := Kd.C_below hAa hb
 replace hNa := Kd.C_below hNa hb
 replace h6 := blk_below h6 hb
 replace hAb := Kd.C_below hAb hb
 replace hNb := Kd.C_below hNb hb
 replace h7 := blk_below h7 hb
 replace hA2 := Kd.C_below hA2 hb
 replace hN2 := Kd.C_below hN2 hb
 replace h8 := blk_below h8 hb
 clear hb
 have hg2 := Bp.g_ok (k := k) hxo hyo hid hwn
 have ho2 := Pk.op_right ho
 have hag := (Pk.op_again (k := k) (x := x) (y := y) (id := id) (want := wn)).trans hu.out.symm
 replace hag := Aside0.mk hag
 generalize gX k x = x2 at *
 generalize gY k y = y2 at *
 generalize gI k id = id2 at *
 generalize gV k wn = wn2 at *
 have h9 := blk_new w12 (.cells #[.int .i64 k, .string x2.f0, .int .i64 x2.f1, .int .i64 x2.f2, .int .i64 x2.f3, .int .i64 x2.f4, .string x2.f5, .string y2.f0, .int .i64 y2.f1, .int .i64 y2.f2, .string y2.f3, .bool y2.f4, .string id2, .int .i64 wn2] 36)
 have qh9 := below_alloc (Below.refl w12.heap.size w12) (.cells #[.int .i64 k, .string x2.f0, .int .i64 x2.f1, .int .i64 x2.f2, .int .i64 x2.f3, .int .i64 x2.f4, .string x2.f5, .string y2.f0, .int .i64 y2.f1, .int .i64 y2.f2, .string y2.f3, .bool y2.f4, .string id2, .int .i64 wn2] 36)
 replace h3 := blk_below h3 qh9
 replace hB := below_then hB hB.size qh9
 replace hAa := Kd.C_below hAa qh9
 replace hNa := Kd.C_below hNa qh9
 replace h6 := blk_below h6 qh9
 replace hAb := Kd.C_below hAb qh9
 replace hNb := Kd.C_below hNb qh9
 replace h7 := blk_below h7 qh9
 replace hA2 := Kd.C_below hA2 qh9
 replace hN2 := Kd.C_below hN2 qh9
 replace h8 := blk_below h8 qh9
 clear qh9
 have o0 := (blk_cell h9 0).trans rfl
 have o1 := (blk_cell h9 1).trans rfl
 have o2 := (blk_cell h9 2).trans rfl
 have o3 := (blk_cell h9 3).trans rfl
 have o4 := (blk_cell h9 4).trans rfl
 have o5 := (blk_cell h9 5).trans rfl
 have o6 := (blk_cell h9 6).trans rfl
 have o7 := (blk_cell h9 7).trans rfl
 have o8 := (blk_cell h9 8).trans rfl
 have o9 := (blk_cell h9 9).trans rfl
 have o10 := (blk_cell h9 10).trans rfl
 have o11 := (blk_cell h9 11).trans rfl
 have o12 := (blk_cell h9 12).trans rfl
 have o13 := (blk_cell h9 13).trans rfl
 go_wp2_with fail
 generalize (w12.alloc (.cells #[.int .i64 k, .string x2.f0, .int .i64 x2.f1, .int .i64 x2.f2, .int .i64 x2.f3, .int .i64 x2.f4, .string x2.f5, .string y2.f0, .int .i64 y2.f1, .int .i64 y2.f2, .string y2.f3, .bool y2.f4, .string id2, .int .i64 wn2] 36)) = w13 at *
 generalize w12.heap.size = b9 at *
 refine (Pw.putOp_any k x2 y2 id2 wn2 w13 ho2 hg2.1 hg2.2.1 hg2.2.2.1 hg2.2.2.2 (by have := hg2.1.2.2.2.2.2; omega) (by have := hg2.2.1.2.2.2; omega)).mono ?_
 rintro e' w14 ⟨rfl, hb⟩
 clear o0 o1 o2 o3 o4 o5 o6 o7 o8 o9 o10 o11 o12 o13
 replace h3 := blk_below h3 hb
 replace hB := below_then hB hB.size hb
 replace hAa := Kd.C_below hAa hb
 replace hNa := Kd.C_below hNa hb
 replace h6 := blk_below h6 hb
 replace hAb := Kd.C_below hAb hb
 replace hNb := Kd.C_below hNb hb
 replace h7 := blk_below h7 hb
 replace hA2 := Kd.C_below hA2 hb
 replace hN2 := Kd.C_below hN2 hb
 replace h8 := blk_below h8 hb
 replace h9 := blk_below h9 hb
 clear hb
 rw [hag.out]
 go_wp2_with fail
 have sF : ∀ w', Below w14.heap.size w14 w' → (w'.cell? ⟨b8, 0, none⟩ = some (.int .i64 epa) ∧ w'.cell? ⟨b8, 1, none⟩ = some (.slice A2 wsa.length c2) ∧ w'.cell? ⟨b8, 2, none⟩ = some (.slice B2 nsa.length d2) ∧ w'.cell? ⟨b6, 0, none⟩ = some (.int .i64 epa) ∧ w'.cell? ⟨b6, 1, none⟩ = some (.slice Aa wsa.length ca) ∧ w'.cell? ⟨b6, 2, none⟩ = some (.slice Ba nsa.length da) ∧ w'.cell? ⟨b7, 0, none⟩ = some (.int .i64 epb) ∧ w'.cell? ⟨b7, 1, none⟩ = some (.slice Ab wsb.length cb) ∧ w'.cell? ⟨b7, 2, none⟩ = some (.slice Bb nsb.length db) ∧ w'.cell? ⟨b9, 0, none⟩ = some (.int .i64 k) ∧ w'.cell? ⟨b3, 0, none⟩ = some (.int .i64 X.f0) ∧ w'.cell? ⟨b3, 1, none⟩ = some (.int .i64 X.f1) ∧ w'.cell? ⟨b3, 2, none⟩ = some (.int .i64 X.f2) ∧ w'.cell? ⟨b3, 3, none⟩ = some (.slice Ar X.f3.length cr)) := fun w' h => ⟨(blk_cell (blk_below h8 h) 0).trans rfl, (blk_cell (blk_below h8 h) 1).trans rfl, (blk_cell (blk_below h8 h) 2).trans rfl, (blk_cell (blk_below h6 h) 0).trans rfl, (blk_cell (blk_below h6 h) 1).trans rfl, (blk_cell (blk_below h6 h) 2).trans rfl, (blk_cell (blk_below h7 h) 0).trans rfl, (blk_cell (blk_below h7 h) 1).trans rfl, (blk_cell (blk_below h7 h) 2).trans rfl, (blk_cell (blk_below h9 h) 0).trans rfl, (blk_cell (blk_below h3 h) 0).trans rfl, (blk_cell (blk_below h3 h) 1).trans rfl, (blk_cell (blk_below h3 h) 2).trans rfl, (blk_cell (blk_below h3 h) 3).trans rfl⟩
 have hF := Aside0.mk (Below.refl w14.heap.size w14)
 have hqb := state_inj (e := epa) (e' := epb) (ws := wsa) (ws' := wsb) (ns := nsa) (ns' := nsb) ⟨by have := hria.1; omega, by have := hria.1; omega⟩ ⟨by have := hrib.1; omega, by have := hrib.1; omega⟩ hria.2.1 hrib.2.1 hria.2.2.1 hrib.2.2.1 hoka.1 hokb.1 hoka.2 hokb.2
 rw [← hsa.out, ← hsb.out] at hqb
 have g1 : wsa.length ≤ 1000000 := by have := hria.2.1; omega
 have g2 : nsa.length ≤ 1000000 := by have := hria.2.2.1; omega
 replace hqb := Lib.hid hqb
 replace g1 := Lib.hid g1
 replace g2 := Lib.hid g2
 replace sF := Aside0.mk sF
 clear hsa hsb hria hrib hoka hokb hsla hslb hrsa hrsb hu hag ho2 hg2 ho hxo hyo hid hwn
 refine start_ (n := 53) (S := fun w' => w'.cell? ⟨b8, 0, none⟩ = some (.int .i64 epa) ∧ w'.cell? ⟨b8, 1, none⟩ = some (.slice A2 wsa.length c2) ∧ w'.cell? ⟨b8, 2, none⟩ = some (.slice B2 nsa.length d2) ∧ w'.cell? ⟨b6, 0, none⟩ = some (.int .i64 epa) ∧ w'.cell? ⟨b6, 1, none⟩ = some (.slice Aa wsa.length ca) ∧ w'.cell? ⟨b6, 2, none⟩ = some (.slice Ba nsa.length da) ∧ w'.cell? ⟨b7, 0, none⟩ = some (.int .i64 epb) ∧ w'.cell? ⟨b7, 1, none⟩ = some (.slice Ab wsb.length cb) ∧ w'.cell? ⟨b7, 2, none⟩ = some (.slice Bb nsb.length db) ∧ w'.cell? ⟨b9, 0, none⟩ = some (.int .i64 k) ∧ w'.cell? ⟨b3, 0, none⟩ = some (.int .i64 X.f0) ∧ w'.cell? ⟨b3, 1, none⟩ = some (.int .i64 X.f1) ∧ w'.cell? ⟨b3, 2, none⟩ = some (.int .i64 X.f2) ∧ w'.cell? ⟨b3, 3, none⟩ = some (.slice Ar X.f3.length cr)) (ds := []) (bt 53 0) (by kernel_rfl) rfl (by kernel_rfl) (sF.out w14 hF.out) (fun hHeld => ?_)
 replace hF := Aside0.mk (below_drew hF.out)
 generalize w14.drew = wd at hHeld hF ⊢
 refine py 0 58 (bt 53 1) rfl rfl (h := ?_)
 refine py 1 59 (bt 53 3) rfl rfl (h := ?_)
 refine py 2 60 (bt 53 7) rfl rfl (h := ?_)
 refine py 3 61 (bt 53 15) rfl rfl (h := ?_)
 refine py 4 62 (bt 53 31) rfl rfl (h := ?_)
 refine py 5 63 (bt 53 63) rfl rfl (h := ?_)
 refine py 6 64 (bt 53 127) rfl rfl (h := ?_)
 refine py 7 65 (bt 53 255) rfl rfl (h := ?_)
 refine py 8 66 (bt 53 511) rfl rfl (h := ?_)
 refine py 9 67 (bt 53 1023) rfl rfl (h := ?_)
 refine py 10 68 (bt 53 2047) rfl rfl (h := ?_)
 refine py 11 69 (bt 53 4095) rfl rfl (h := ?_)
 refine py 12 70 (bt 53 8191) rfl rfl (h := ?_)
 refine py 13 71 (bt 53 16383) rfl rfl (h := ?_)
 refine py 14 72 (bt 53 32767) rfl rfl (h := ?_)
 refine py 15 73 (bt 53 65535) rfl rfl (h := ?_)
 refine py 16 74 (bt 53 131071) rfl rfl (h := ?_)
 refine py 17 75 (bt 53 262143) rfl rfl (h := ?_)
 refine py 18 76 (bt 53 524287) rfl rfl (h := ?_)
 refine py 19 77 (bt 53 1048575) rfl rfl (h := ?_)
 refine py 20 78 (bt 53 2097151) rfl rfl (h := ?_)
 refine py 21 79 (bt 53 4194303) rfl rfl (h := ?_)
 refine py 22 80 (bt 53 8388607) rfl rfl (h := ?_)
 refine py 23 81 (bt 53 16777215) rfl rfl (h := ?_)
 refine py 24 82 (bt 53 33554431) rfl rfl (h := ?_)
 refine py 25 83 (bt 53 67108863) rfl rfl (h := ?_)
 refine ty 26 84 (bt 53 134217727) rfl rfl hHeld (h := ?_)
 refine ty 27 85 (bt 53 268435455) rfl rfl hHeld (h := ?_)
 refine oe 28 86 (bt 53 536870911) rfl rfl (fun K hK => ?_)
 refine goes_ Tryz.func16 (by kernel_rfl) rfl #[stV epa A2 wsa.length c2 B2 nsa.length d2, stV epa Aa wsa.length ca Ba nsa.length da] (by rfl) rfl rfl (by (try simp only [List.map_toArray, List.map_cons, List.map_nil]); rfl) ?_
 refine (Sy.same_yes epa A2 B2 Aa Ba c2 d2 ca da wsa nsa _ (Kd.C_below hA2 hF.out) (Kd.C_below hN2 hF.out) (Kd.C_below hAa hF.out) (Kd.C_below hNa hF.out) g1.out g2.out).mono ?_
 rintro e' wc ⟨rfl, hb⟩
 replace hF := Aside0.mk (below_then hF.out hF.out.size hb)
 clear hb
 refine ⟨_, rfl, ?_⟩
 refine hK.out _ _ (sF.out _ hF.out) (fun hHeld => ?_)
 clear hK K
 refine ny (h := ?_)
 refine py 29 87 (bt 53 1073741823) rfl rfl (h := ?_)
 refine py 30 88 (bt 53 2147483647) rfl rfl (h := ?_)
 refine py 31 89 (bt 53 4294967295) rfl rfl (h := ?_)
 refine py 32 90 (bt 53 8589934591) rfl rfl (h := ?_)
 refine py 33 91 (bt 53 17179869183) rfl rfl (h := ?_)
 obtain ⟨q, hq⟩ : ∃ q, q = (sa.toList == sb.toList) := ⟨_, rfl⟩
 rw [← hq]
 replace hq := Lib.hid (show q = true ↔ sa = sb from by rw [hq, beq_iff_eq, ByteArray.toList_eq, ByteArray.toList_eq]; exact ⟨fun h => ByteArray.ext (Array.toList_inj.1 h), fun h => by rw [h]⟩)
 refine ty 34 92 (bt 53 34359738367) rfl rfl hHeld (h := ?_)
 refine ty 35 93 (bt 53 68719476735) rfl rfl hHeld (h := ?_)
 refine oe 36 94 (bt 53 137438953471) rfl rfl (fun K hK => ?_)
 refine goes_ Tryz.func16 (by kernel_rfl) rfl #[stV epa Aa wsa.length ca Ba nsa.length da, stV epb Ab wsb.length cb Bb nsb.length db] (by rfl) rfl rfl (by (try simp only [List.map_toArray, List.map_cons, List.map_nil]); rfl) ?_
 refine (Sy.same_calls epa Aa Ba ca da wsa nsa epb Ab Bb cb db wsb nsb _ (Kd.C_below hAa hF.out) (Kd.C_below hNa hF.out) (Kd.C_below hAb hF.out) (Kd.C_below hNb hF.out) g1.out g2.out).mono ?_
 rintro e' wc ⟨b, rfl, hbi, hb⟩
 obtain rfl : b = q := bq hbi hq.out hqb.out
 replace hF := Aside0.mk (below_then hF.out hF.out.size hb)
 clear hb
 refine ⟨_, rfl, ?_⟩
 refine hK.out _ _ (sF.out _ hF.out) (fun hHeld => ?_)
 clear hK K
 refine ny (h := ?_)
 refine py 37 95 (bt 53 274877906943) rfl rfl (h := ?_)
 refine py 38 96 (bt 53 549755813887) rfl rfl (h := ?_)
 refine py 39 97 (bt 53 1099511627775) rfl rfl (h := ?_)
 refine py 40 98 (bt 53 2199023255551) rfl rfl (h := ?_)
 refine py 41 99 (bt 53 4398046511103) rfl rfl (h := ?_)
 refine py 42 100 (bt 53 8796093022207) rfl rfl (h := ?_)
 refine py 43 101 (bt 53 17592186044415) rfl rfl (h := ?_)
 refine py 44 102 (bt 53 35184372088831) rfl rfl (h := ?_)
 refine py 45 103 (bt 53 70368744177663) rfl rfl (h := ?_)
 refine ty 46 104 (bt 53 140737488355327) rfl rfl hHeld (h := ?_)
 refine ty 47 105 (bt 53 281474976710655) rfl rfl hHeld (h := ?_)
 refine oe 48 106 (bt 53 562949953421311) rfl rfl (fun K hK => ?_)
 refine goes_ Tryz.func13 (by kernel_rfl) rfl #[.agg #[.int .i64 X.f0, .int .i64 X.f1, .int .i64 X.f2, .slice Ar X.f3.length cr]] (by rfl) rfl rfl (by (try simp only [List.map_toArray, List.map_cons, List.map_nil]); rfl) ?_
 refine (hop.out _ (below_then hB hB.size hF.out)).mono ?_
 rintro e' wc ⟨he, hb⟩
 dsimp only [opV] at he
 subst he
 replace hF := Aside0.mk (below_then hF.out hF.out.size hb)
 clear hb
 refine ⟨_, rfl, ?_⟩
 refine hK.out _ _ (sF.out _ hF.out) (fun hHeld => ?_)
 clear hK K
 refine ny (h := ?_)
 have hf : ∀ w : World, (Instr.field 36 (.agg #[.int .i64 k, .string x.f0, .int .i64 x.f1, .int .i64 x.f2, .int .i64 x.f3, .int .i64 x.f4, .string x.f5, .string y.f0, .int .i64 y.f1, .int .i64 y.f2, .string y.f3, .bool y.f4, .string id, .int .i64 wn]) 0).run Tryz.prog w = .ok (.int .i64 k) w := fun _ => by kernel_rfl
 refine py 49 107 (bt 53 1125899906842623) rfl rfl (h := ?_)
 refine py 50 108 (bt 53 2251799813685247) rfl rfl (h := ?_)
 refine py 51 109 (bt 53 4503599627370495) rfl rfl (h := ?_)
 refine py 52 6 (bt 53 9007199254740991) rfl rfl (h := ?_)
 refine done_ (by kernel_rfl) ?_
 go_wp2_with fail
 go_ret
 exact ⟨rfl, below_then hB hB.size hF.out⟩
end Go.Proofs.YtldlkbjbfgieeaaGreatDoor.Bk
namespace Go.Proofs.YtldlkbjbfgieeaaGreatDoor.Br
open Go.RowKit Go.Proofs.YtldlkbjbfgieeaaGreatDoorW.PrintWords Q
open Go.Proofs.YtldlkbjbfgieeaaGreatDoor.La (In64)
theorem wf_in {y : Int} (h : (Lit.int .i64 y).wf = true) : In64 y := by
 unfold In64
 simpa [Lit.wf, IntKind.min, IntKind.max, IntKind.signed, IntKind.bits] using h
theorem raws_in {l : List S40} {p q : Prop} {b0 b1 : S40 → Prop} (hV : p ∧ q ∧ ∀ x ∈ l, (Lit.int .i64 x.f0).wf = true ∧ (Lit.int .i64 x.f1).wf = true ∧ (Lit.int .i64 x.f2).wf = true ∧ b0 x ∧ b1 x ∧ ∀ y ∈ x.f3, (Lit.int .i64 y).wf = true) :
 ∀ x ∈ l, In64 x.f0 ∧ In64 x.f1 ∧ In64 x.f2 ∧ ∀ z ∈ x.f3, In64 z := fun x hx => ⟨wf_in (hV.2.2 x hx).1, wf_in (hV.2.2 x hx).2.1, wf_in (hV.2.2 x hx).2.2.1, fun z hz => wf_in ((hV.2.2 x hx).2.2.2.2.2 z hz)⟩
theorem back_row (A : Option Addr) (c : Nat) (l : List S40) (A1 : Option Addr) (c1 : Nat) (m : List S40) (f0 f1 f2 : Int) (A2 : Option Addr) (c2 : Nat) (f3 : List Int) (w : World) (hr : Kd.C k40 w A l.length l) (hc : l.length ≤ c) {p q : Prop} {b0 b1 : S40 → Prop} (hV : p ∧ q ∧ ∀ x ∈ l, (Lit.int .i64 x.f0).wf = true ∧ (Lit.int .i64 x.f1).wf = true ∧ (Lit.int .i64 x.f2).wf = true ∧ b0 x ∧ b1 x ∧ ∀ y ∈ x.f3, (Lit.int .i64 y).wf = true)
 (hr1 : Kd.C k40 w A1 m.length m) (hc1 : m.length ≤ c1) {p1 q1 : Prop} {b01 b11 : S40 → Prop} (hV1 : p1 ∧ q1 ∧ ∀ x ∈ m, (Lit.int .i64 x.f0).wf = true ∧ (Lit.int .i64 x.f1).wf = true ∧ (Lit.int .i64 x.f2).wf = true ∧ b01 x ∧ b11 x ∧ ∀ y ∈ x.f3, (Lit.int .i64 y).wf = true)
 (hr2 : Kd.C (Kd.int .i64) w A2 f3.length f3) (hc2 : f3.length ≤ c2) {p2 q2 : Prop} (hV2 : (Lit.int .i64 f0).wf = true ∧ (Lit.int .i64 f1).wf = true ∧ (Lit.int .i64 f2).wf = true ∧ p2 ∧ q2 ∧ ∀ y ∈ f3, (Lit.int .i64 y).wf = true) :
 Calls Tryz.prog 10 #[.slice A l.length c, .slice A1 m.length c1, .agg #[.int .i64 f0, .int .i64 f1, .int .i64 f2, .slice A2 f3.length c2]] w fun e w' => e = .returned (.bool true) ∧ Below w.heap.size w w' :=
 Bk.back_any Aw.awake_any A c l w hr hc (raws_in hV) A1 c1 m hr1 hc1 (raws_in hV1) ⟨f0, f1, f2, f3⟩ A2 c2 hc2 hr2 ⟨wf_in hV2.1, wf_in hV2.2.1, wf_in hV2.2.2.1, fun z hz => wf_in (hV2.2.2.2.2.2 z hz)⟩
end Go.Proofs.YtldlkbjbfgieeaaGreatDoor.Br
