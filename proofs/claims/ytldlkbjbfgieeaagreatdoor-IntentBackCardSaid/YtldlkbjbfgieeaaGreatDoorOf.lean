/- billetlaw12.Op -/
import Derived.Test.YtldlkbjbfgieeaaGreatDoorFt
import Derived.Test.YtldlkbjbfgieeaaGreatDoorMo
import Derived.Test.YtldlkbjbfgieeaaGreatDoorQx84
import Derived.Test.YtldlkbjbfgieeaaGreatDoorLa
namespace Go.Proofs.YtldlkbjbfgieeaaGreatDoor.Op
set_option linter.unusedVariables false
set_option linter.unusedSimpArgs false
open Go.RowKit Go.Proofs.YtldlkbjbfgieeaaGreatDoorW.PrintWords Go.Proofs.YtldlkbjbfgieeaaGreatDoorW.PrintLast Mo Q Ch Ft
theorem pick12_any (a n : Int) (w : World) (hn : n ≠ 0) : Calls Tryz.prog 17 #[.int .i64 a, .int .i64 n] w fun e w' => e = .returned (.int .i64 (pk a n)) ∧ w = w' := by
 unfold pk
 have b1 : (n == 0) = false := beq_eq_false_iff_ne.mpr hn
 by_cases h : a < 0
 ·have d1 : decide (a < 0) = true := by simp; omega
  rw [if_pos h]
  go_enter Tryz.func17, Tryz.ntmps17
  go_wp2_with fail
  go_ret
  exact ⟨rfl, rfl⟩
 ·have d1 : decide (a < 0) = false := by simp; omega
  rw [if_neg h]
  go_enter Tryz.func17, Tryz.ntmps17
  go_wp2_with fail
  go_ret
  exact ⟨rfl, rfl⟩
abbrev rawO (rk ri rw : Int) (A : Option Addr) (n c : Nat) : Obj := .cells #[.int .i64 rk, .int .i64 ri, .int .i64 rw, .slice A n c] 40
abbrev opZ : Obj := .cells #[.int .i64 0, .string ⟨#[]⟩, .int .i64 0, .int .i64 0, .int .i64 0, .int .i64 0, .string ⟨#[]⟩, .string ⟨#[]⟩, .int .i64 0, .int .i64 0, .string ⟨#[]⟩, .bool false, .string ⟨#[]⟩, .int .i64 0] 36
/-- Op between its steps -/
def Fo (w w' : World) (rk ri rw : Int) (A : Option Addr) (n c g o : Nat) : Prop := w'.heap[g]? = some (.cells #[.int .i64 rk, .int .i64 ri, .int .i64 rw, .slice A n c] 40 (0, 0)) ∧ w'.heap[o]? = some (.cells #[.int .i64 0, .string ⟨#[]⟩, .int .i64 0, .int .i64 0, .int .i64 0, .int .i64 0, .string ⟨#[]⟩, .string ⟨#[]⟩, .int .i64 0, .int .i64 0, .string ⟨#[]⟩, .bool false, .string ⟨#[]⟩, .int .i64 0] 36 (0, 0)) ∧ Below w.heap.size w w'
theorem Fo.below {w w' w2 : World} {rk ri rw : Int} {A : Option Addr} {n c g o : Nat} (h : Fo w w' rk ri rw A n c g o) (hb : Below w'.heap.size w' w2) : Fo w w2 rk ri rw A n c g o := ⟨blk_below h.1 hb, blk_below h.2.1 hb, below_then h.2.2 h.2.2.size hb⟩
theorem Fo.set {w w' : World} {rk ri rw : Int} {A : Option Addr} {n c g o x : Nat} {cs : Array Value} (h : Fo w w' rk ri rw A n c g o) (hx : w'.heap[x]? = some (.cells cs 36 (0, 0))) (ho : o ≠ x) (hge : w.heap.size ≤ x) (j : Nat) (v : Value) : Fo w (w'.setCell ⟨x, j, none⟩ v) rk ri rw A n c g o :=
 ⟨blk_far (p := ⟨x, j, none⟩) h.1 (ne_of h.1 hx (by decide)) v, blk_far (p := ⟨x, j, none⟩) h.2.1 ho v, h.2.2.setCell (p := ⟨x, j, none⟩) hge v⟩
abbrev kOf (rk : Int) : Int := wrap64 (1 + pk rk 8)
def opX (rk : Int) (nm : ByteArray) (l : List Int) (T : ByteArray) : W := if kOf rk = 1 then { fitW l T with f0 := nm } else ⟨⟨#[]⟩, 0, 0, 0, 0, ⟨#[]⟩⟩
def opY (rk : Int) (nm : ByteArray) (l : List Int) (L : ByteArray) : N := if kOf rk = 4 then { fitN l L with f0 := nm } else ⟨⟨#[]⟩, 0, 0, ⟨#[]⟩, false⟩
theorem grownS (W : World) (o j : Nat) (v : Value) : W.grownBy (W.setCell ⟨o, j, none⟩ v) (some o) := ⟨rfl, rfl, rfl, by simp [World.setCell], fun k _ hk => Below.heap_setCell _ _ _ k (fun e => hk (by rw [e]))⟩
theorem put14 {w2 : World} {o t : Nat} {z0 z1 z2 z3 z4 z5 z6 z7 z8 z9 z10 z11 z12 z13 : Value} (a0 a1 a2 a3 a4 a5 a6 a7 a8 a9 a10 a11 a12 a13 : Value) (h : w2.heap[o]? = some (.cells #[z0, z1, z2, z3, z4, z5, z6, z7, z8, z9, z10, z11, z12, z13] t (0, 0))) : ((((((((((((((w2.setCell ⟨o, 0, none⟩ (a0)).setCell ⟨o, 1, none⟩ (a1)).setCell ⟨o, 2, none⟩ (a2)).setCell ⟨o, 3, none⟩ (a3)).setCell ⟨o, 4, none⟩ (a4)).setCell ⟨o, 5, none⟩ (a5)).setCell ⟨o, 6, none⟩ (a6)).setCell ⟨o, 7, none⟩ (a7)).setCell ⟨o, 8, none⟩ (a8)).setCell ⟨o, 9, none⟩ (a9)).setCell ⟨o, 10, none⟩ (a10)).setCell ⟨o, 11, none⟩ (a11)).setCell ⟨o, 12, none⟩ (a12)).setCell ⟨o, 13, none⟩ (a13)).heap[o]? = some (.cells #[a0, a1, a2, a3, a4, a5, a6, a7, a8, a9, a10, a11, a12, a13] t (0, 0)) ∧ w2.grownBy ((((((((((((((w2.setCell ⟨o, 0, none⟩ (a0)).setCell ⟨o, 1, none⟩ (a1)).setCell ⟨o, 2, none⟩ (a2)).setCell ⟨o, 3, none⟩ (a3)).setCell ⟨o, 4, none⟩ (a4)).setCell ⟨o, 5, none⟩ (a5)).setCell ⟨o, 6, none⟩ (a6)).setCell ⟨o, 7, none⟩ (a7)).setCell ⟨o, 8, none⟩ (a8)).setCell ⟨o, 9, none⟩ (a9)).setCell ⟨o, 10, none⟩ (a10)).setCell ⟨o, 11, none⟩ (a11)).setCell ⟨o, 12, none⟩ (a12)).setCell ⟨o, 13, none⟩ (a13)) (some o) := by
 have h0 := blk_put h 0 a0 (cs' := #[a0, z1, z2, z3, z4, z5, z6, z7, z8, z9, z10, z11, z12, z13]) rfl
 have h1 := blk_put h0 1 a1 (cs' := #[a0, a1, z2, z3, z4, z5, z6, z7, z8, z9, z10, z11, z12, z13]) rfl
 have h2 := blk_put h1 2 a2 (cs' := #[a0, a1, a2, z3, z4, z5, z6, z7, z8, z9, z10, z11, z12, z13]) rfl
 have h3 := blk_put h2 3 a3 (cs' := #[a0, a1, a2, a3, z4, z5, z6, z7, z8, z9, z10, z11, z12, z13]) rfl
 have h4 := blk_put h3 4 a4 (cs' := #[a0, a1, a2, a3, a4, z5, z6, z7, z8, z9, z10, z11, z12, z13]) rfl
 have h5 := blk_put h4 5 a5 (cs' := #[a0, a1, a2, a3, a4, a5, z6, z7, z8, z9, z10, z11, z12, z13]) rfl
 have h6 := blk_put h5 6 a6 (cs' := #[a0, a1, a2, a3, a4, a5, a6, z7, z8, z9, z10, z11, z12, z13]) rfl
 have h7 := blk_put h6 7 a7 (cs' := #[a0, a1, a2, a3, a4, a5, a6, a7, z8, z9, z10, z11, z12, z13]) rfl
 have h8 := blk_put h7 8 a8 (cs' := #[a0, a1, a2, a3, a4, a5, a6, a7, a8, z9, z10, z11, z12, z13]) rfl
 have h9 := blk_put h8 9 a9 (cs' := #[a0, a1, a2, a3, a4, a5, a6, a7, a8, a9, z10, z11, z12, z13]) rfl
 have h10 := blk_put h9 10 a10 (cs' := #[a0, a1, a2, a3, a4, a5, a6, a7, a8, a9, a10, z11, z12, z13]) rfl
 have h11 := blk_put h10 11 a11 (cs' := #[a0, a1, a2, a3, a4, a5, a6, a7, a8, a9, a10, a11, z12, z13]) rfl
 have h12 := blk_put h11 12 a12 (cs' := #[a0, a1, a2, a3, a4, a5, a6, a7, a8, a9, a10, a11, a12, z13]) rfl
 have h13 := blk_put h12 13 a13 (cs' := #[a0, a1, a2, a3, a4, a5, a6, a7, a8, a9, a10, a11, a12, a13]) rfl
 exact ⟨h13, ((((((((((((((grownS _ _ _ _).trans (grownS _ _ _ _)).trans (grownS _ _ _ _)).trans (grownS _ _ _ _)).trans (grownS _ _ _ _)).trans (grownS _ _ _ _)).trans (grownS _ _ _ _)).trans (grownS _ _ _ _)).trans (grownS _ _ _ _)).trans (grownS _ _ _ _)).trans (grownS _ _ _ _)).trans (grownS _ _ _ _)).trans (grownS _ _ _ _)).trans (grownS _ _ _ _))⟩
set_option maxHeartbeats 8000000 in
set_option maxRecDepth 100000 in
theorem op_any (rk ri rw : Int) (A : Option Addr) (c : Nat) (l : List Int) (nm T L : ByteArray) (kL : Nat) (w : World) (hc : l.length ≤ c) (hl : Kd.C (Kd.int .i64) w A l.length l)
 (hnm : billetlaw12_Name.f ri = some nm) (hT : billetlaw04_Term.f (pk (at_ l 5) 256) = some T) (hL : billetlaw04_Labels.f kL [at_ l 3, at_ l 2] = some L) :
 Calls Tryz.prog 13 #[.agg #[.int .i64 rk, .int .i64 ri, .int .i64 rw, .slice A l.length c]] w fun e w' => e = .returned (opV (kOf rk) (opX rk nm l T) (opY rk nm l L) nm (pk rw 17)) ∧ Below w.heap.size w w' := by
 have hnm := Lib.hid hnm
 have hT := Lib.hid hT
 have hL := Lib.hid hL
 have hB := below_alloc (below_alloc (Below.refl w.heap.size w) (rawO rk ri rw A l.length c)) opZ
 have h1 := blk_alloc (blk_new w (rawO rk ri rw A l.length c)) opZ
 have h2 := blk_new (w.alloc (rawO rk ri rw A l.length c)) opZ
 obtain ⟨g, hg⟩ : ∃ g, g = w.heap.size := ⟨_, rfl⟩
 obtain ⟨o, ho⟩ : ∃ o, o = w.heap.size + 1 := ⟨_, rfl⟩
 have n1 : g ≠ o := by omega
 have q1 : w.heap.size ≤ o := by omega
 rw [← hg] at h1
 rw [show (w.alloc (rawO rk ri rw A l.length c)).heap.size = o by simp [ho]] at h2
 have hg' := Lib.hid hg
 have ho' := Lib.hid ho
 clear hg ho
 obtain ⟨n, hn⟩ : ∃ n, n = l.length := ⟨_, rfl⟩
 go_enter Tryz.func13, Tryz.ntmps13
 go_wp2_with fail
 rw [← ho'.out, ← hg'.out]
 revert hB; revert h1; revert h2
 rw [← hn]
 generalize (w.alloc (rawO rk ri rw A n c)).alloc opZ = wa
 intro h2 h1 hB
 have hF := Aside0.mk (show Fo w wa rk ri rw A n c g o from ⟨h1, h2, hB⟩)
 have g0 := (blk_cell h1 0).trans rfl
 have g1 := (blk_cell h1 1).trans rfl
 have g2 := (blk_cell h1 2).trans rfl
 clear h1 h2 hB
 refine start_ (n := 13) (S := fun w' => w'.cell? ⟨g, 0, none⟩ = some (.int .i64 rk) ∧ w'.cell? ⟨g, 1, none⟩ = some (.int .i64 ri) ∧ w'.cell? ⟨g, 2, none⟩ = some (.int .i64 rw)) (ds := [12]) (bt 13 0) (by kernel_rfl) rfl (by kernel_rfl) (⟨g0, g1, g2⟩) (fun hHeld => ?_)
 replace hF := Aside0.mk (hF.out.below (below_drew (Below.refl _ _)))
 clear g0 g1 g2
 generalize wa.drew = wd at *
 refine py 0 5 (bt 13 1) rfl rfl (h := ?_)
 refine ty 1 6 (bt 13 3) rfl rfl hHeld (h := ?_)
 refine py 4 9 (bt 13 19) rfl rfl (h := ?_)
 refine ty 5 10 (bt 13 51) rfl rfl hHeld (h := ?_)
 refine py 7 12 (bt 13 179) rfl rfl (h := ?_)
 refine ty 8 13 (bt 13 435) rfl rfl hHeld (h := ?_)
 refine join_ (σ := Nat) 1 (bt 13 4095) (fun s_ => [(7, .int .i64 (pk rk 8)), (8, .int .i64 (wrap64 (1 + pk rk 8))), (11, .string nm), (14, .int .i64 (pk rw 17)), (15, .agg #[.int .i64 (wrap64 (1 + pk rk 8)), .string ⟨#[]⟩, .int .i64 0, .int .i64 0, .int .i64 0, .int .i64 0, .string ⟨#[]⟩, .string ⟨#[]⟩, .int .i64 0, .int .i64 0, .string ⟨#[]⟩, .bool false, .string nm, .int .i64 (pk rw 17)]), (3, .pointer (some ⟨s_, 0, none⟩))]) (fun s_ w' => w.heap.size ≤ s_ ∧ o ≠ s_ ∧ w'.heap[s_]? = some (.cells #[.int .i64 0, .string ⟨#[]⟩, .int .i64 0, .int .i64 0, .int .i64 0, .int .i64 0, .string ⟨#[]⟩, .string ⟨#[]⟩, .int .i64 0, .int .i64 0, .string ⟨#[]⟩, .bool false, .string ⟨#[]⟩, .int .i64 0] 36 (0, 0)) ∧ Fo w w' rk ri rw A n c g o) ?_ (fun hJ => ?_)
 rotate_left
 ·refine two_ (i := 2) (j := 11) (Ni := some 7) (Nj := some 3) (bt 13 439) (bt 13 2483) rfl rfl rfl rfl (by kernel_rfl) (by decide) (by decide) (fun K hK => ?_) (fun K hK => ?_)
  rotate_left
  ·refine puts_ (some 3) (by rfl) rfl (v := .pointer (some ⟨wd.heap.size, 0, none⟩)) (w1 := wd.alloc (.cells #[.int .i64 0, .string ⟨#[]⟩, .int .i64 0, .int .i64 0, .int .i64 0, .int .i64 0, .string ⟨#[]⟩, .string ⟨#[]⟩, .int .i64 0, .int .i64 0, .string ⟨#[]⟩, .bool false, .string ⟨#[]⟩, .int .i64 0] 36)) (by first | (go_simp; done) | (go_simp; rfl)) ?_; have hFa := Aside0.mk (hF.out.below (below_alloc (Below.refl _ _) (.cells #[.int .i64 0, .string ⟨#[]⟩, .int .i64 0, .int .i64 0, .int .i64 0, .int .i64 0, .string ⟨#[]⟩, .string ⟨#[]⟩, .int .i64 0, .int .i64 0, .string ⟨#[]⟩, .bool false, .string ⟨#[]⟩, .int .i64 0] 36))); have hx := blk_new wd (.cells #[.int .i64 0, .string ⟨#[]⟩, .int .i64 0, .int .i64 0, .int .i64 0, .int .i64 0, .string ⟨#[]⟩, .string ⟨#[]⟩, .int .i64 0, .int .i64 0, .string ⟨#[]⟩, .bool false, .string ⟨#[]⟩, .int .i64 0] 36); have hxg := hF.out.2.2.size; have hxo := Nat.ne_of_lt (blk_lt hF.out.2.1); refine hK.out _ _ ⟨(blk_cell hFa.out.1 0).trans rfl, (blk_cell hFa.out.1 1).trans rfl, (blk_cell hFa.out.1 2).trans rfl⟩ (fun hHeld => ?_); clear hK K; refine ny (h := ?_)
   refine oe 2 7 (bt 13 2487) rfl rfl (fun K hK => ?_); refine goes_ Tryz.func17 (by kernel_rfl) rfl #[.int .i64 rk, .int .i64 8] (by rfl) rfl rfl (by (try simp only [List.map_toArray, List.map_cons, List.map_nil]); rfl) ?_; refine (pick12_any rk 8 _ (by decide)).mono ?_; rintro e w' ⟨rfl, rfl⟩; refine ⟨_, rfl, ?_⟩; refine hK.out _ _ ⟨(blk_cell hFa.out.1 0).trans rfl, (blk_cell hFa.out.1 1).trans rfl, (blk_cell hFa.out.1 2).trans rfl⟩ (fun hHeld => ?_); clear hK K; refine ny (h := ?_)
   refine py 3 8 (bt 13 2495) rfl rfl (h := ?_)
   refine oe 6 11 (bt 13 2559) rfl rfl (fun K hK => ?_); refine goes_ Tryz.func35 (by kernel_rfl) rfl #[.int .i64 ri] (by rfl) rfl rfl (by (try simp only [List.map_toArray, List.map_cons, List.map_nil]); rfl) ?_; refine (billetlaw12_Name.calls ri nm _ hnm.out).mono ?_; rintro e w5 ⟨rfl, hb5⟩; have hFb := Aside0.mk (hFa.out.below hb5); have hx5 := blk_below hx hb5; refine ⟨_, rfl, ?_⟩; refine hK.out _ _ ⟨(blk_cell hFb.out.1 0).trans rfl, (blk_cell hFb.out.1 1).trans rfl, (blk_cell hFb.out.1 2).trans rfl⟩ (fun hHeld => ?_); clear hK K; refine ny (h := ?_)
   refine oe 9 14 (bt 13 3071) rfl rfl (fun K hK => ?_); refine goes_ Tryz.func17 (by kernel_rfl) rfl #[.int .i64 rw, .int .i64 17] (by rfl) rfl rfl (by (try simp only [List.map_toArray, List.map_cons, List.map_nil]); rfl) ?_; refine (pick12_any rw 17 _ (by decide)).mono ?_; rintro e w' ⟨rfl, rfl⟩; refine ⟨_, rfl, ?_⟩; refine hK.out _ _ ⟨(blk_cell hFb.out.1 0).trans rfl, (blk_cell hFb.out.1 1).trans rfl, (blk_cell hFb.out.1 2).trans rfl⟩ (fun hHeld => ?_); clear hK K; refine ny (h := ?_)
   refine py 10 15 (bt 13 4095) rfl rfl (h := ?_)
   exact na (hJ _ _ ⟨hxg, hxo, hx5, hFb.out⟩)
  refine goes_ Tryz.func17 (by kernel_rfl) rfl #[.int .i64 rk, .int .i64 8] (by rfl) rfl rfl (by (try simp only [List.map_toArray, List.map_cons, List.map_nil]); rfl) ?_; refine (pick12_any rk 8 _ (by decide)).mono ?_; rintro e w' ⟨rfl, rfl⟩; refine ⟨_, rfl, ?_⟩; refine hK.out _ _ ⟨(blk_cell hF.out.1 0).trans rfl, (blk_cell hF.out.1 1).trans rfl, (blk_cell hF.out.1 2).trans rfl⟩ (fun hHeld => ?_); clear hK K; refine ny (h := ?_)
  refine py 3 8 (bt 13 447) rfl rfl (h := ?_)
  refine two_ (i := 6) (j := 11) (Ni := some 11) (Nj := some 3) (bt 13 511) (bt 13 2495) rfl rfl rfl rfl (by kernel_rfl) (by decide) (by decide) (fun K hK => ?_) (fun K hK => ?_)
  rotate_left
  ·refine puts_ (some 3) (by rfl) rfl (v := .pointer (some ⟨wd.heap.size, 0, none⟩)) (w1 := wd.alloc (.cells #[.int .i64 0, .string ⟨#[]⟩, .int .i64 0, .int .i64 0, .int .i64 0, .int .i64 0, .string ⟨#[]⟩, .string ⟨#[]⟩, .int .i64 0, .int .i64 0, .string ⟨#[]⟩, .bool false, .string ⟨#[]⟩, .int .i64 0] 36)) (by first | (go_simp; done) | (go_simp; rfl)) ?_; have hFa := Aside0.mk (hF.out.below (below_alloc (Below.refl _ _) (.cells #[.int .i64 0, .string ⟨#[]⟩, .int .i64 0, .int .i64 0, .int .i64 0, .int .i64 0, .string ⟨#[]⟩, .string ⟨#[]⟩, .int .i64 0, .int .i64 0, .string ⟨#[]⟩, .bool false, .string ⟨#[]⟩, .int .i64 0] 36))); have hx := blk_new wd (.cells #[.int .i64 0, .string ⟨#[]⟩, .int .i64 0, .int .i64 0, .int .i64 0, .int .i64 0, .string ⟨#[]⟩, .string ⟨#[]⟩, .int .i64 0, .int .i64 0, .string ⟨#[]⟩, .bool false, .string ⟨#[]⟩, .int .i64 0] 36); have hxg := hF.out.2.2.size; have hxo := Nat.ne_of_lt (blk_lt hF.out.2.1); refine hK.out _ _ ⟨(blk_cell hFa.out.1 0).trans rfl, (blk_cell hFa.out.1 1).trans rfl, (blk_cell hFa.out.1 2).trans rfl⟩ (fun hHeld => ?_); clear hK K; refine ny (h := ?_)
   refine oe 6 11 (bt 13 2559) rfl rfl (fun K hK => ?_); refine goes_ Tryz.func35 (by kernel_rfl) rfl #[.int .i64 ri] (by rfl) rfl rfl (by (try simp only [List.map_toArray, List.map_cons, List.map_nil]); rfl) ?_; refine (billetlaw12_Name.calls ri nm _ hnm.out).mono ?_; rintro e w5 ⟨rfl, hb5⟩; have hFb := Aside0.mk (hFa.out.below hb5); have hx5 := blk_below hx hb5; refine ⟨_, rfl, ?_⟩; refine hK.out _ _ ⟨(blk_cell hFb.out.1 0).trans rfl, (blk_cell hFb.out.1 1).trans rfl, (blk_cell hFb.out.1 2).trans rfl⟩ (fun hHeld => ?_); clear hK K; refine ny (h := ?_)
   refine oe 9 14 (bt 13 3071) rfl rfl (fun K hK => ?_); refine goes_ Tryz.func17 (by kernel_rfl) rfl #[.int .i64 rw, .int .i64 17] (by rfl) rfl rfl (by (try simp only [List.map_toArray, List.map_cons, List.map_nil]); rfl) ?_; refine (pick12_any rw 17 _ (by decide)).mono ?_; rintro e w' ⟨rfl, rfl⟩; refine ⟨_, rfl, ?_⟩; refine hK.out _ _ ⟨(blk_cell hFb.out.1 0).trans rfl, (blk_cell hFb.out.1 1).trans rfl, (blk_cell hFb.out.1 2).trans rfl⟩ (fun hHeld => ?_); clear hK K; refine ny (h := ?_)
   refine py 10 15 (bt 13 4095) rfl rfl (h := ?_)
   exact na (hJ _ _ ⟨hxg, hxo, hx5, hFb.out⟩)
  refine goes_ Tryz.func35 (by kernel_rfl) rfl #[.int .i64 ri] (by rfl) rfl rfl (by (try simp only [List.map_toArray, List.map_cons, List.map_nil]); rfl) ?_; refine (billetlaw12_Name.calls ri nm _ hnm.out).mono ?_; rintro e w5 ⟨rfl, hb5⟩; have hF5 := Aside0.mk (hF.out.below hb5); refine ⟨_, rfl, ?_⟩; refine hK.out _ _ ⟨(blk_cell hF5.out.1 0).trans rfl, (blk_cell hF5.out.1 1).trans rfl, (blk_cell hF5.out.1 2).trans rfl⟩ (fun hHeld => ?_); clear hK K; refine ny (h := ?_)
  refine two_ (i := 9) (j := 11) (Ni := some 14) (Nj := some 3) (bt 13 1023) (bt 13 2559) rfl rfl rfl rfl (by kernel_rfl) (by decide) (by decide) (fun K hK => ?_) (fun K hK => ?_)
  rotate_left
  ·refine puts_ (some 3) (by rfl) rfl (v := .pointer (some ⟨w5.heap.size, 0, none⟩)) (w1 := w5.alloc (.cells #[.int .i64 0, .string ⟨#[]⟩, .int .i64 0, .int .i64 0, .int .i64 0, .int .i64 0, .string ⟨#[]⟩, .string ⟨#[]⟩, .int .i64 0, .int .i64 0, .string ⟨#[]⟩, .bool false, .string ⟨#[]⟩, .int .i64 0] 36)) (by first | (go_simp; done) | (go_simp; rfl)) ?_; have hFa := Aside0.mk (hF5.out.below (below_alloc (Below.refl _ _) (.cells #[.int .i64 0, .string ⟨#[]⟩, .int .i64 0, .int .i64 0, .int .i64 0, .int .i64 0, .string ⟨#[]⟩, .string ⟨#[]⟩, .int .i64 0, .int .i64 0, .string ⟨#[]⟩, .bool false, .string ⟨#[]⟩, .int .i64 0] 36))); have hx := blk_new w5 (.cells #[.int .i64 0, .string ⟨#[]⟩, .int .i64 0, .int .i64 0, .int .i64 0, .int .i64 0, .string ⟨#[]⟩, .string ⟨#[]⟩, .int .i64 0, .int .i64 0, .string ⟨#[]⟩, .bool false, .string ⟨#[]⟩, .int .i64 0] 36); have hxg := hF5.out.2.2.size; have hxo := Nat.ne_of_lt (blk_lt hF5.out.2.1); refine hK.out _ _ ⟨(blk_cell hFa.out.1 0).trans rfl, (blk_cell hFa.out.1 1).trans rfl, (blk_cell hFa.out.1 2).trans rfl⟩ (fun hHeld => ?_); clear hK K; refine ny (h := ?_)
   refine oe 9 14 (bt 13 3071) rfl rfl (fun K hK => ?_); refine goes_ Tryz.func17 (by kernel_rfl) rfl #[.int .i64 rw, .int .i64 17] (by rfl) rfl rfl (by (try simp only [List.map_toArray, List.map_cons, List.map_nil]); rfl) ?_; refine (pick12_any rw 17 _ (by decide)).mono ?_; rintro e w' ⟨rfl, rfl⟩; refine ⟨_, rfl, ?_⟩; refine hK.out _ _ ⟨(blk_cell hFa.out.1 0).trans rfl, (blk_cell hFa.out.1 1).trans rfl, (blk_cell hFa.out.1 2).trans rfl⟩ (fun hHeld => ?_); clear hK K; refine ny (h := ?_)
   refine py 10 15 (bt 13 4095) rfl rfl (h := ?_)
   exact na (hJ _ _ ⟨hxg, hxo, hx, hFa.out⟩)
  refine goes_ Tryz.func17 (by kernel_rfl) rfl #[.int .i64 rw, .int .i64 17] (by rfl) rfl rfl (by (try simp only [List.map_toArray, List.map_cons, List.map_nil]); rfl) ?_; refine (pick12_any rw 17 _ (by decide)).mono ?_; rintro e w' ⟨rfl, rfl⟩; refine ⟨_, rfl, ?_⟩; refine hK.out _ _ ⟨(blk_cell hF5.out.1 0).trans rfl, (blk_cell hF5.out.1 1).trans rfl, (blk_cell hF5.out.1 2).trans rfl⟩ (fun hHeld => ?_); clear hK K; refine ny (h := ?_)
  refine py 10 15 (bt 13 2047) rfl rfl (h := ?_)
  refine oe 11 3 (bt 13 4095) rfl rfl (fun K hK => ?_); refine puts_ (some 3) (by rfl) rfl (v := .pointer (some ⟨w5.heap.size, 0, none⟩)) (w1 := w5.alloc (.cells #[.int .i64 0, .string ⟨#[]⟩, .int .i64 0, .int .i64 0, .int .i64 0, .int .i64 0, .string ⟨#[]⟩, .string ⟨#[]⟩, .int .i64 0, .int .i64 0, .string ⟨#[]⟩, .bool false, .string ⟨#[]⟩, .int .i64 0] 36)) (by first | (go_simp; done) | (go_simp; rfl)) ?_; have hFa := Aside0.mk (hF5.out.below (below_alloc (Below.refl _ _) (.cells #[.int .i64 0, .string ⟨#[]⟩, .int .i64 0, .int .i64 0, .int .i64 0, .int .i64 0, .string ⟨#[]⟩, .string ⟨#[]⟩, .int .i64 0, .int .i64 0, .string ⟨#[]⟩, .bool false, .string ⟨#[]⟩, .int .i64 0] 36))); have hx := blk_new w5 (.cells #[.int .i64 0, .string ⟨#[]⟩, .int .i64 0, .int .i64 0, .int .i64 0, .int .i64 0, .string ⟨#[]⟩, .string ⟨#[]⟩, .int .i64 0, .int .i64 0, .string ⟨#[]⟩, .bool false, .string ⟨#[]⟩, .int .i64 0] 36); have hxg := hF5.out.2.2.size; have hxo := Nat.ne_of_lt (blk_lt hF5.out.2.1); refine hK.out _ _ ⟨(blk_cell hFa.out.1 0).trans rfl, (blk_cell hFa.out.1 1).trans rfl, (blk_cell hFa.out.1 2).trans rfl⟩ (fun hHeld => ?_); clear hK K; refine ny (h := ?_)
  exact na (hJ _ _ ⟨hxg, hxo, hx, hFa.out⟩)
 clear hF hHeld
 rintro x w6 ⟨hxg, hxo, hX, hF⟩
 replace hF := Aside0.mk hF
 refine na ?_
 refine last_ (i := 12) (N := none) (bt 13 8191) rfl rfl (by kernel_rfl) (by decide) (fun K hK => ?_)
 have x0 := (blk_cell hX 0).trans rfl
 have y0 := blk_frozen hX 0
 have x1 := (blk_cell hX 1).trans rfl
 have y1 := blk_frozen hX 1
 have x2 := (blk_cell hX 2).trans rfl
 have y2 := blk_frozen hX 2
 have x3 := (blk_cell hX 3).trans rfl
 have y3 := blk_frozen hX 3
 have x4 := (blk_cell hX 4).trans rfl
 have y4 := blk_frozen hX 4
 have x5 := (blk_cell hX 5).trans rfl
 have y5 := blk_frozen hX 5
 have x6 := (blk_cell hX 6).trans rfl
 have y6 := blk_frozen hX 6
 have x7 := (blk_cell hX 7).trans rfl
 have y7 := blk_frozen hX 7
 have x8 := (blk_cell hX 8).trans rfl
 have y8 := blk_frozen hX 8
 have x9 := (blk_cell hX 9).trans rfl
 have y9 := blk_frozen hX 9
 have x10 := (blk_cell hX 10).trans rfl
 have y10 := blk_frozen hX 10
 have x11 := (blk_cell hX 11).trans rfl
 have y11 := blk_frozen hX 11
 have x12 := (blk_cell hX 12).trans rfl
 have y12 := blk_frozen hX 12
 have x13 := (blk_cell hX 13).trans rfl
 have y13 := blk_frozen hX 13
 refine sk ?_
 refine hK.out _ _ ?_
 clear hK K
 refine done_ (by kernel_rfl) ?_
 have e0 := blk_put hX 0 (.int .i64 (kOf rk)) (cs' := #[.int .i64 (kOf rk), .string ⟨#[]⟩, .int .i64 0, .int .i64 0, .int .i64 0, .int .i64 0, .string ⟨#[]⟩, .string ⟨#[]⟩, .int .i64 0, .int .i64 0, .string ⟨#[]⟩, .bool false, .string ⟨#[]⟩, .int .i64 0]) rfl
 have e1 := blk_put e0 1 (.string ⟨#[]⟩) (cs' := #[.int .i64 (kOf rk), .string ⟨#[]⟩, .int .i64 0, .int .i64 0, .int .i64 0, .int .i64 0, .string ⟨#[]⟩, .string ⟨#[]⟩, .int .i64 0, .int .i64 0, .string ⟨#[]⟩, .bool false, .string ⟨#[]⟩, .int .i64 0]) rfl
 have e2 := blk_put e1 2 (.int .i64 0) (cs' := #[.int .i64 (kOf rk), .string ⟨#[]⟩, .int .i64 0, .int .i64 0, .int .i64 0, .int .i64 0, .string ⟨#[]⟩, .string ⟨#[]⟩, .int .i64 0, .int .i64 0, .string ⟨#[]⟩, .bool false, .string ⟨#[]⟩, .int .i64 0]) rfl
 have e3 := blk_put e2 3 (.int .i64 0) (cs' := #[.int .i64 (kOf rk), .string ⟨#[]⟩, .int .i64 0, .int .i64 0, .int .i64 0, .int .i64 0, .string ⟨#[]⟩, .string ⟨#[]⟩, .int .i64 0, .int .i64 0, .string ⟨#[]⟩, .bool false, .string ⟨#[]⟩, .int .i64 0]) rfl
 have e4 := blk_put e3 4 (.int .i64 0) (cs' := #[.int .i64 (kOf rk), .string ⟨#[]⟩, .int .i64 0, .int .i64 0, .int .i64 0, .int .i64 0, .string ⟨#[]⟩, .string ⟨#[]⟩, .int .i64 0, .int .i64 0, .string ⟨#[]⟩, .bool false, .string ⟨#[]⟩, .int .i64 0]) rfl
 have e5 := blk_put e4 5 (.int .i64 0) (cs' := #[.int .i64 (kOf rk), .string ⟨#[]⟩, .int .i64 0, .int .i64 0, .int .i64 0, .int .i64 0, .string ⟨#[]⟩, .string ⟨#[]⟩, .int .i64 0, .int .i64 0, .string ⟨#[]⟩, .bool false, .string ⟨#[]⟩, .int .i64 0]) rfl
 have e6 := blk_put e5 6 (.string ⟨#[]⟩) (cs' := #[.int .i64 (kOf rk), .string ⟨#[]⟩, .int .i64 0, .int .i64 0, .int .i64 0, .int .i64 0, .string ⟨#[]⟩, .string ⟨#[]⟩, .int .i64 0, .int .i64 0, .string ⟨#[]⟩, .bool false, .string ⟨#[]⟩, .int .i64 0]) rfl
 have e7 := blk_put e6 7 (.string ⟨#[]⟩) (cs' := #[.int .i64 (kOf rk), .string ⟨#[]⟩, .int .i64 0, .int .i64 0, .int .i64 0, .int .i64 0, .string ⟨#[]⟩, .string ⟨#[]⟩, .int .i64 0, .int .i64 0, .string ⟨#[]⟩, .bool false, .string ⟨#[]⟩, .int .i64 0]) rfl
 have e8 := blk_put e7 8 (.int .i64 0) (cs' := #[.int .i64 (kOf rk), .string ⟨#[]⟩, .int .i64 0, .int .i64 0, .int .i64 0, .int .i64 0, .string ⟨#[]⟩, .string ⟨#[]⟩, .int .i64 0, .int .i64 0, .string ⟨#[]⟩, .bool false, .string ⟨#[]⟩, .int .i64 0]) rfl
 have e9 := blk_put e8 9 (.int .i64 0) (cs' := #[.int .i64 (kOf rk), .string ⟨#[]⟩, .int .i64 0, .int .i64 0, .int .i64 0, .int .i64 0, .string ⟨#[]⟩, .string ⟨#[]⟩, .int .i64 0, .int .i64 0, .string ⟨#[]⟩, .bool false, .string ⟨#[]⟩, .int .i64 0]) rfl
 have e10 := blk_put e9 10 (.string ⟨#[]⟩) (cs' := #[.int .i64 (kOf rk), .string ⟨#[]⟩, .int .i64 0, .int .i64 0, .int .i64 0, .int .i64 0, .string ⟨#[]⟩, .string ⟨#[]⟩, .int .i64 0, .int .i64 0, .string ⟨#[]⟩, .bool false, .string ⟨#[]⟩, .int .i64 0]) rfl
 have e11 := blk_put e10 11 (.bool false) (cs' := #[.int .i64 (kOf rk), .string ⟨#[]⟩, .int .i64 0, .int .i64 0, .int .i64 0, .int .i64 0, .string ⟨#[]⟩, .string ⟨#[]⟩, .int .i64 0, .int .i64 0, .string ⟨#[]⟩, .bool false, .string ⟨#[]⟩, .int .i64 0]) rfl
 have e12 := blk_put e11 12 (.string nm) (cs' := #[.int .i64 (kOf rk), .string ⟨#[]⟩, .int .i64 0, .int .i64 0, .int .i64 0, .int .i64 0, .string ⟨#[]⟩, .string ⟨#[]⟩, .int .i64 0, .int .i64 0, .string ⟨#[]⟩, .bool false, .string nm, .int .i64 0]) rfl
 have e13 := blk_put e12 13 (.int .i64 (pk rw 17)) (cs' := #[.int .i64 (kOf rk), .string ⟨#[]⟩, .int .i64 0, .int .i64 0, .int .i64 0, .int .i64 0, .string ⟨#[]⟩, .string ⟨#[]⟩, .int .i64 0, .int .i64 0, .string ⟨#[]⟩, .bool false, .string nm, .int .i64 (pk rw 17)]) rfl
 have f0 := hF.out.set hX hxo hxg 0 (.int .i64 (kOf rk))
 have f1 := f0.set e0 hxo hxg 1 (.string ⟨#[]⟩)
 have f2 := f1.set e1 hxo hxg 2 (.int .i64 0)
 have f3 := f2.set e2 hxo hxg 3 (.int .i64 0)
 have f4 := f3.set e3 hxo hxg 4 (.int .i64 0)
 have f5 := f4.set e4 hxo hxg 5 (.int .i64 0)
 have f6 := f5.set e5 hxo hxg 6 (.string ⟨#[]⟩)
 have f7 := f6.set e6 hxo hxg 7 (.string ⟨#[]⟩)
 have f8 := f7.set e7 hxo hxg 8 (.int .i64 0)
 have f9 := f8.set e8 hxo hxg 9 (.int .i64 0)
 have f10 := f9.set e9 hxo hxg 10 (.string ⟨#[]⟩)
 have f11 := f10.set e10 hxo hxg 11 (.bool false)
 have f12 := f11.set e11 hxo hxg 12 (.string nm)
 have f13 := f12.set e12 hxo hxg 13 (.int .i64 (pk rw 17))
 have hF6 := Aside0.mk f13
 clear hX hF x0 y0 x1 y1 x2 y2 x3 y3 x4 y4 x5 y5 x6 y6 x7 y7 x8 y8 x9 y9 x10 y10 x11 y11 x12 y12 x13 y13 e0 e1 e2 e3 e4 e5 e6 e7 e8 e9 e10 e11 e12 f0 f1 f2 f3 f4 f5 f6 f7 f8 f9 f10 f11 f12 f13
 revert hF6; revert e13
 generalize ((((((((((((((w6.setCell ⟨x, 0, none⟩ (.int .i64 (kOf rk))).setCell ⟨x, 1, none⟩ (.string ⟨#[]⟩)).setCell ⟨x, 2, none⟩ (.int .i64 0)).setCell ⟨x, 3, none⟩ (.int .i64 0)).setCell ⟨x, 4, none⟩ (.int .i64 0)).setCell ⟨x, 5, none⟩ (.int .i64 0)).setCell ⟨x, 6, none⟩ (.string ⟨#[]⟩)).setCell ⟨x, 7, none⟩ (.string ⟨#[]⟩)).setCell ⟨x, 8, none⟩ (.int .i64 0)).setCell ⟨x, 9, none⟩ (.int .i64 0)).setCell ⟨x, 10, none⟩ (.string ⟨#[]⟩)).setCell ⟨x, 11, none⟩ (.bool false)).setCell ⟨x, 12, none⟩ (.string nm)).setCell ⟨x, 13, none⟩ (.int .i64 (pk rw 17))) = w6b
 intro hX hF
 subst hn
 have g3 := (blk_cell hF.out.1 3).trans rfl
 have hb0 := below_alloc (below_alloc (Below.refl _ w6b) (.cells #[.slice A l.length c] 38)) (.cells #[.slice A l.length c] 38)
 have hp := (blk_cell (blk_alloc (blk_new w6b (.cells #[.slice A l.length c] 38)) (.cells #[.slice A l.length c] 38)) 0).trans rfl
 have hq0 := blk_new (w6b.alloc (.cells #[.slice A l.length c] 38)) (.cells #[.slice A l.length c] 38)
 rw [show (w6b.alloc (.cells #[.slice A l.length c] 38)).heap.size = w6b.heap.size + 1 by simp] at hq0
 have hq := (blk_cell hq0 0).trans rfl
 clear hq0
 have hX7 := blk_below hX hb0
 have hF7 := Aside0.mk (hF.out.below hb0)
 have hl7 := Kd.C_below hl hF7.out.2.2
 clear hb0
 have g3b := (blk_cell (blk_alloc hF.out.1 (.cells #[.slice A l.length c] 38)) 3).trans rfl
 go_upto_block 0 with (first | (go_at_call 36; with_reducible refine (fit_any w6b.heap.size (w6b.heap.size + 1) A c l T L kL _ hp hq hc hl7 hT.out hL.out).mono ?_; rintro e w7 ⟨V, U, rfl, hV, hU, hb7⟩; obtain ⟨A1, c1, rfl⟩ := Kd.R_slice hV; obtain ⟨A2, c2, rfl⟩ := Kd.R_slice hU; have hX8 := blk_alloc (blk_below hX7 hb7) (.cells #[.slice A1 1 c1, .slice A2 1 c2] 67); have hF8 := Aside0.mk ((hF7.out.below hb7).below (below_alloc (Below.refl _ _) (.cells #[.slice A1 1 c1, .slice A2 1 c2] 67))); have hP8 := blk_new w7 (.cells #[.slice A1 1 c1, .slice A2 1 c2] 67); have x0 := (blk_cell hX8 0).trans rfl))
 have hV8 := Kd.R_alloc hV (o := .cells #[.slice A1 1 c1, .slice A2 1 c2] 67)
 have hU8 := Kd.R_alloc hU (o := .cells #[.slice A1 1 c1, .slice A2 1 c2] 67)
 clear x0 hX hF hX7 hF7 hp hq g3 g3b hl7 hV hU hb7
 generalize w7.heap.size = p at *
 generalize w7.alloc (.cells #[.slice A1 1 c1, .slice A2 1 c2] 67) = w8 at *
 have p0 := (blk_cell hP8 0).trans rfl
 have p1 := (blk_cell hP8 1).trans rfl
 go_cut [3] (fun s3 wx => s3 = .pointer (some ⟨x, 0, none⟩) ∧ wx.heap[x]? = some (opC' (kOf rk) (opX rk nm l T) (opY rk nm l L) nm (pk rw 17)) ∧ Aside0 (Fo w wx rk ri rw A l.length c g o))
 case first =>
  by_cases hk1 : kOf rk = 1
  ·have b1 : (kOf rk == 1) = true := beq_iff_eq.mpr hk1
   obtain ⟨ad, rfl, k0, k1, k2, k3, k4, k5⟩ := at_T32 (Kd.R_reads' hV8).2.2 0 (by decide) (by simp)
   rw [show rd_T32 [fitW l T] 0 = fitW l T from rfl, show ad.add (Int.toNat 0 * 6) = ad from rfl] at k0 k1 k2 k3 k4 k5
   have x12 := (blk_cell hX8 12).trans rfl
   have x1 := (blk_cell hX8 1).trans rfl
   have y1 := blk_frozen hX8 1
   have x2 := (blk_cell hX8 2).trans rfl
   have y2 := blk_frozen hX8 2
   have x3 := (blk_cell hX8 3).trans rfl
   have y3 := blk_frozen hX8 3
   have x4 := (blk_cell hX8 4).trans rfl
   have y4 := blk_frozen hX8 4
   have x5 := (blk_cell hX8 5).trans rfl
   have y5 := blk_frozen hX8 5
   have x6 := (blk_cell hX8 6).trans rfl
   have y6 := blk_frozen hX8 6
   have a1 := blk_put hX8 1 (.string (fitW l T).f0) (cs' := #[.int .i64 (kOf rk), .string (fitW l T).f0, .int .i64 0, .int .i64 0, .int .i64 0, .int .i64 0, .string ⟨#[]⟩, .string ⟨#[]⟩, .int .i64 0, .int .i64 0, .string ⟨#[]⟩, .bool false, .string nm, .int .i64 (pk rw 17)]) rfl
   have a2 := blk_put a1 2 (.int .i64 (fitW l T).f1) (cs' := #[.int .i64 (kOf rk), .string (fitW l T).f0, .int .i64 (fitW l T).f1, .int .i64 0, .int .i64 0, .int .i64 0, .string ⟨#[]⟩, .string ⟨#[]⟩, .int .i64 0, .int .i64 0, .string ⟨#[]⟩, .bool false, .string nm, .int .i64 (pk rw 17)]) rfl
   have a3 := blk_put a2 3 (.int .i64 (fitW l T).f2) (cs' := #[.int .i64 (kOf rk), .string (fitW l T).f0, .int .i64 (fitW l T).f1, .int .i64 (fitW l T).f2, .int .i64 0, .int .i64 0, .string ⟨#[]⟩, .string ⟨#[]⟩, .int .i64 0, .int .i64 0, .string ⟨#[]⟩, .bool false, .string nm, .int .i64 (pk rw 17)]) rfl
   have a4 := blk_put a3 4 (.int .i64 (fitW l T).f3) (cs' := #[.int .i64 (kOf rk), .string (fitW l T).f0, .int .i64 (fitW l T).f1, .int .i64 (fitW l T).f2, .int .i64 (fitW l T).f3, .int .i64 0, .string ⟨#[]⟩, .string ⟨#[]⟩, .int .i64 0, .int .i64 0, .string ⟨#[]⟩, .bool false, .string nm, .int .i64 (pk rw 17)]) rfl
   have a5 := blk_put a4 5 (.int .i64 (fitW l T).f4) (cs' := #[.int .i64 (kOf rk), .string (fitW l T).f0, .int .i64 (fitW l T).f1, .int .i64 (fitW l T).f2, .int .i64 (fitW l T).f3, .int .i64 (fitW l T).f4, .string ⟨#[]⟩, .string ⟨#[]⟩, .int .i64 0, .int .i64 0, .string ⟨#[]⟩, .bool false, .string nm, .int .i64 (pk rw 17)]) rfl
   have a6 := blk_put a5 6 (.string (fitW l T).f5) (cs' := #[.int .i64 (kOf rk), .string (fitW l T).f0, .int .i64 (fitW l T).f1, .int .i64 (fitW l T).f2, .int .i64 (fitW l T).f3, .int .i64 (fitW l T).f4, .string (fitW l T).f5, .string ⟨#[]⟩, .int .i64 0, .int .i64 0, .string ⟨#[]⟩, .bool false, .string nm, .int .i64 (pk rw 17)]) rfl
   have c1 := hF8.out.set hX8 hxo hxg 1 (.string (fitW l T).f0)
   have c2 := c1.set a1 hxo hxg 2 (.int .i64 (fitW l T).f1)
   have c3 := c2.set a2 hxo hxg 3 (.int .i64 (fitW l T).f2)
   have c4 := c3.set a3 hxo hxg 4 (.int .i64 (fitW l T).f3)
   have c5 := c4.set a4 hxo hxg 5 (.int .i64 (fitW l T).f4)
   have c6 := c5.set a5 hxo hxg 6 (.string (fitW l T).f5)
   have x12' := (blk_cell a6 12).trans rfl
   have x1' := (blk_cell a6 1).trans rfl
   have y1' := blk_frozen a6 1
   have b2_ := blk_put a6 1 (.string nm) (cs' := #[.int .i64 (kOf rk), .string nm, .int .i64 (fitW l T).f1, .int .i64 (fitW l T).f2, .int .i64 (fitW l T).f3, .int .i64 (fitW l T).f4, .string (fitW l T).f5, .string ⟨#[]⟩, .int .i64 0, .int .i64 0, .string ⟨#[]⟩, .bool false, .string nm, .int .i64 (pk rw 17)]) rfl
   have f2_ := c6.set a6 hxo hxg 1 (.string nm)
   have hx_ : opX rk nm l T = { fitW l T with f0 := nm } := if_pos hk1
   have hy_ : opY rk nm l L = ⟨⟨#[]⟩, 0, 0, ⟨#[]⟩, false⟩ := if_neg (by omega)
   clear hk1
   go_wp2_with fail
   go_meet
   rw [hx_, hy_]
   exact ⟨rfl, b2_, Aside0.mk f2_⟩
  ·have b1 : (kOf rk == 1) = false := beq_eq_false_iff_ne.mpr hk1
   have hx_ : opX rk nm l T = ⟨⟨#[]⟩, 0, 0, 0, 0, ⟨#[]⟩⟩ := if_neg hk1
   by_cases hk4 : kOf rk = 4
   ·have b4 : (kOf rk == 4) = true := beq_iff_eq.mpr hk4
    obtain ⟨ad, rfl, k0, k1, k2, k3, k4⟩ := at_T34 (Kd.R_reads' hU8).2.2 0 (by decide) (by simp)
    rw [show rd_T34 [fitN l L] 0 = fitN l L from rfl, show ad.add (Int.toNat 0 * 5) = ad from rfl] at k0 k1 k2 k3 k4
    have x12 := (blk_cell hX8 12).trans rfl
    have x7 := (blk_cell hX8 7).trans rfl
    have y7 := blk_frozen hX8 7
    have x8 := (blk_cell hX8 8).trans rfl
    have y8 := blk_frozen hX8 8
    have x9 := (blk_cell hX8 9).trans rfl
    have y9 := blk_frozen hX8 9
    have x10 := (blk_cell hX8 10).trans rfl
    have y10 := blk_frozen hX8 10
    have x11 := (blk_cell hX8 11).trans rfl
    have y11 := blk_frozen hX8 11
    have a7 := blk_put hX8 7 (.string (fitN l L).f0) (cs' := #[.int .i64 (kOf rk), .string ⟨#[]⟩, .int .i64 0, .int .i64 0, .int .i64 0, .int .i64 0, .string ⟨#[]⟩, .string (fitN l L).f0, .int .i64 0, .int .i64 0, .string ⟨#[]⟩, .bool false, .string nm, .int .i64 (pk rw 17)]) rfl
    have a8 := blk_put a7 8 (.int .i64 (fitN l L).f1) (cs' := #[.int .i64 (kOf rk), .string ⟨#[]⟩, .int .i64 0, .int .i64 0, .int .i64 0, .int .i64 0, .string ⟨#[]⟩, .string (fitN l L).f0, .int .i64 (fitN l L).f1, .int .i64 0, .string ⟨#[]⟩, .bool false, .string nm, .int .i64 (pk rw 17)]) rfl
    have a9 := blk_put a8 9 (.int .i64 (fitN l L).f2) (cs' := #[.int .i64 (kOf rk), .string ⟨#[]⟩, .int .i64 0, .int .i64 0, .int .i64 0, .int .i64 0, .string ⟨#[]⟩, .string (fitN l L).f0, .int .i64 (fitN l L).f1, .int .i64 (fitN l L).f2, .string ⟨#[]⟩, .bool false, .string nm, .int .i64 (pk rw 17)]) rfl
    have a10 := blk_put a9 10 (.string (fitN l L).f3) (cs' := #[.int .i64 (kOf rk), .string ⟨#[]⟩, .int .i64 0, .int .i64 0, .int .i64 0, .int .i64 0, .string ⟨#[]⟩, .string (fitN l L).f0, .int .i64 (fitN l L).f1, .int .i64 (fitN l L).f2, .string (fitN l L).f3, .bool false, .string nm, .int .i64 (pk rw 17)]) rfl
    have a11 := blk_put a10 11 (.bool (fitN l L).f4) (cs' := #[.int .i64 (kOf rk), .string ⟨#[]⟩, .int .i64 0, .int .i64 0, .int .i64 0, .int .i64 0, .string ⟨#[]⟩, .string (fitN l L).f0, .int .i64 (fitN l L).f1, .int .i64 (fitN l L).f2, .string (fitN l L).f3, .bool (fitN l L).f4, .string nm, .int .i64 (pk rw 17)]) rfl
    have c7 := hF8.out.set hX8 hxo hxg 7 (.string (fitN l L).f0)
    have c8 := c7.set a7 hxo hxg 8 (.int .i64 (fitN l L).f1)
    have c9 := c8.set a8 hxo hxg 9 (.int .i64 (fitN l L).f2)
    have c10 := c9.set a9 hxo hxg 10 (.string (fitN l L).f3)
    have c11 := c10.set a10 hxo hxg 11 (.bool (fitN l L).f4)
    have x12' := (blk_cell a11 12).trans rfl
    have x1' := (blk_cell a11 7).trans rfl
    have y1' := blk_frozen a11 7
    have b2_ := blk_put a11 7 (.string nm) (cs' := #[.int .i64 (kOf rk), .string ⟨#[]⟩, .int .i64 0, .int .i64 0, .int .i64 0, .int .i64 0, .string ⟨#[]⟩, .string nm, .int .i64 (fitN l L).f1, .int .i64 (fitN l L).f2, .string (fitN l L).f3, .bool (fitN l L).f4, .string nm, .int .i64 (pk rw 17)]) rfl
    have f2_ := c11.set a11 hxo hxg 7 (.string nm)
    have hy_ : opY rk nm l L = { fitN l L with f0 := nm } := if_pos hk4
    clear hk4 hk1
    go_wp2_with fail
    go_meet
    rw [hx_, hy_]
    exact ⟨rfl, b2_, Aside0.mk f2_⟩
   ·have b4 : (kOf rk == 4) = false := beq_eq_false_iff_ne.mpr hk4
    have hy_ : opY rk nm l L = ⟨⟨#[]⟩, 0, 0, ⟨#[]⟩, false⟩ := if_neg hk4
    go_wp2_with fail
    go_meet
    rw [hx_, hy_]
    exact ⟨rfl, hX8, hF8⟩
 case rest =>
  clear hX8 hF8 p0 p1 hP8 hV8 hU8
  obtain ⟨rfl, hX8, hF8⟩ := hcut
  have x0 := (blk_cell hX8 0).trans rfl
  have x1 := (blk_cell hX8 1).trans rfl
  have x2 := (blk_cell hX8 2).trans rfl
  have x3 := (blk_cell hX8 3).trans rfl
  have x4 := (blk_cell hX8 4).trans rfl
  have x5 := (blk_cell hX8 5).trans rfl
  have x6 := (blk_cell hX8 6).trans rfl
  have x7 := (blk_cell hX8 7).trans rfl
  have x8 := (blk_cell hX8 8).trans rfl
  have x9 := (blk_cell hX8 9).trans rfl
  have x10 := (blk_cell hX8 10).trans rfl
  have x11 := (blk_cell hX8 11).trans rfl
  have x12 := (blk_cell hX8 12).trans rfl
  have x13 := (blk_cell hX8 13).trans rfl
  have o0 := (blk_cell hF8.out.2.1 0).trans rfl
  have f0 := blk_frozen hF8.out.2.1 0
  have o1 := (blk_cell hF8.out.2.1 1).trans rfl
  have f1 := blk_frozen hF8.out.2.1 1
  have o2 := (blk_cell hF8.out.2.1 2).trans rfl
  have f2 := blk_frozen hF8.out.2.1 2
  have o3 := (blk_cell hF8.out.2.1 3).trans rfl
  have f3 := blk_frozen hF8.out.2.1 3
  have o4 := (blk_cell hF8.out.2.1 4).trans rfl
  have f4 := blk_frozen hF8.out.2.1 4
  have o5 := (blk_cell hF8.out.2.1 5).trans rfl
  have f5 := blk_frozen hF8.out.2.1 5
  have o6 := (blk_cell hF8.out.2.1 6).trans rfl
  have f6 := blk_frozen hF8.out.2.1 6
  have o7 := (blk_cell hF8.out.2.1 7).trans rfl
  have f7 := blk_frozen hF8.out.2.1 7
  have o8 := (blk_cell hF8.out.2.1 8).trans rfl
  have f8 := blk_frozen hF8.out.2.1 8
  have o9 := (blk_cell hF8.out.2.1 9).trans rfl
  have f9 := blk_frozen hF8.out.2.1 9
  have o10 := (blk_cell hF8.out.2.1 10).trans rfl
  have f10 := blk_frozen hF8.out.2.1 10
  have o11 := (blk_cell hF8.out.2.1 11).trans rfl
  have f11 := blk_frozen hF8.out.2.1 11
  have o12 := (blk_cell hF8.out.2.1 12).trans rfl
  have f12 := blk_frozen hF8.out.2.1 12
  have o13 := (blk_cell hF8.out.2.1 13).trans rfl
  have f13 := blk_frozen hF8.out.2.1 13
  go_wp2_with fail
  obtain ⟨e1, e2⟩ := put14 (.int .i64 (kOf rk)) (.string (opX rk nm l T).f0) (.int .i64 (opX rk nm l T).f1) (.int .i64 (opX rk nm l T).f2) (.int .i64 (opX rk nm l T).f3) (.int .i64 (opX rk nm l T).f4) (.string (opX rk nm l T).f5) (.string (opY rk nm l L).f0) (.int .i64 (opY rk nm l L).f1) (.int .i64 (opY rk nm l L).f2) (.string (opY rk nm l L).f3) (.bool (opY rk nm l L).f4) (.string nm) (.int .i64 (pk rw 17)) hF8.out.2.1
  refine bodyPost_ret (results_cell_row rfl _ _ o 36 _ (0, 0) _ rfl e1 Tryz.underlying36 rfl (by kernel_rfl)) rfl ?_
  exact ⟨rfl, hF8.out.2.2.grown e2 hF8.out.2.2.size (fun k e => by injection e with e; omega)⟩
end Go.Proofs.YtldlkbjbfgieeaaGreatDoor.Op
namespace Go.Proofs.YtldlkbjbfgieeaaGreatDoor.Of
set_option linter.unusedVariables false
set_option linter.unusedSimpArgs false
open Go.RowKit Go.Proofs.YtldlkbjbfgieeaaGreatDoorW.PrintWords Go.Proofs.YtldlkbjbfgieeaaGreatDoorW.PrintLast Mo Q Rw Cb Ch Ft Go.Proofs.YtldlkbjbfgieeaaGreatDoor.Op
open Go.Proofs.YtldlkbjbfgieeaaGreatDoor.Lb (selS noTerm partsS cutS comma)
open Go.Proofs.YtldlkbjbfgieeaaGreatDoor.Nm
open Go.Proofs.YtldlkbjbfgieeaaGreatDoor.La (In64 raw pk_raw labels_right)
open Go.Proofs.YtldlkbjbfgieeaaGreatDoor.Ri (rightS rightO rightP goW goN rightW rightN Small labS labsGo inB)
open Go.IntWalk (wrap64_in)
set_option maxRecDepth 1000000
theorem pick12 {c : Int} (h : In64 c) (n : Nat) (hn : 0 < n) : billetlaw12_pick.f c (n : Int) = some ((raw c % n : Nat) : Int) := by
 rw [← pk_raw h n]
 unfold billetlaw12_pick.f pk
 by_cases hc : c < 0
 ·rw [if_pos hc, if_neg (by omega), if_pos hc]
 ·rw [if_neg hc, if_neg (by omega), if_neg hc, Int.tmod_eq_emod_of_nonneg (by omega)]
def okT (m : Nat) : Bool := match billetlaw04_Term.f (m : Int) with
 | some t => selS t && decide (t.size < 100)
 | none => false
theorem term_all : (List.range 256).all okT = true := by decide +kernel
theorem term_of {m : Nat} (h : m < 256) : ∃ t, billetlaw04_Term.f (m : Int) = some t ∧ selS t = true ∧ t.size < 100 := by
 have := List.all_eq_true.1 term_all m (List.mem_range.2 h)
 unfold okT at this
 revert this
 cases h : billetlaw04_Term.f (m : Int) with
 | none => intro h; cases h
 | some t =>
  intro h2
  simp only [Bool.and_eq_true, decide_eq_true_eq] at h2
  exact ⟨t, rfl, h2.1, h2.2⟩
abbrev nines : List ByteArray := [⟨#[97]⟩, ⟨#[98]⟩, ⟨#[99]⟩, ⟨#[100]⟩, ⟨#[101]⟩, ⟨#[102]⟩, ⟨#[103]⟩, ⟨#[104]⟩, ⟨#[105]⟩]
/-- one of nine names -/
def nine (i : Nat) : ByteArray := nines.getD i ByteArray.empty
theorem nine_all : ((List.range 9).all fun i => nm (nine i) && lt ByteArray.empty (nine i)) = true := by decide +kernel
theorem nine_of {i : Nat} (h : i < 9) : nm (nine i) = true ∧ lt ByteArray.empty (nine i) = true := by
 have := List.all_eq_true.1 nine_all i (List.mem_range.2 h)
 simpa using this
theorem name12 {c : Int} (h : In64 c) : billetlaw12_Name.f c = some (nine (raw c % 9)) := by
 have hp : billetlaw12_pick.f c 9 = some ((raw c % 9 : Nat) : Int) := pick12 h 9 (by decide)
 unfold billetlaw12_Name.f
 rw [Option.bind_some, hp, Option.bind_some, if_pos (by omega), if_pos (by show ((raw c % 9 : Nat) : Int) < 9; omega)]
 unfold rdOf nine
 rw [Int.toNat_natCast]
theorem at_in {l : List Int} (hl : ∀ x ∈ l, In64 x) (i : Int) (h0 : 0 ≤ i) : In64 (at_ l i) := by
 unfold at_
 by_cases h : i ≥ (l.length : Int)
 ·rw [if_pos h]; exact ⟨by decide, by decide⟩
 ·rw [if_neg h]
  unfold rd
  rw [List.getD_eq_getElem?_getD, List.getElem?_eq_getElem (by omega)]
  exact hl _ (List.getElem_mem _)
theorem inB_of {n low high : Int} (h1 : low ≤ n) (h2 : n ≤ high) : inB n low high = true := by
 unfold inB; rw [decide_eq_true h1, decide_eq_true h2]; rfl
theorem kOf_raw {rk : Int} (h : In64 rk) : kOf rk = ((1 + raw rk % 8 : Nat) : Int) := by
 show wrap64 (1 + pk rk 8) = _
 rw [show pk rk 8 = ((raw rk % 8 : Nat) : Int) from pk_raw h 8, wrap64_in _ (by omega)]
 omega
theorem sel_nil : selS ⟨#[]⟩ = true := by decide +kernel
theorem lab_nil : labS ⟨#[]⟩ = true := by decide +kernel
/-- Op's parts, and that they are right -/
theorem op_right {rk ri rw_ : Int} {l : List Int} (hk : In64 rk) (hi : In64 ri) (hw : In64 rw_) (hl : ∀ x ∈ l, In64 x) :
 ∃ T L kL, billetlaw12_Name.f ri = some (nine (raw ri % 9)) ∧ billetlaw04_Term.f (pk (at_ l 5) 256) = some T ∧ billetlaw04_Labels.f kL [at_ l 3, at_ l 2] = some L ∧ T.size < 100 ∧ L.size < 200 ∧
  rightO (kOf rk) (opX rk (nine (raw ri % 9)) l T) (opY rk (nine (raw ri % 9)) l L) (nine (raw ri % 9)) (pk rw_ 17) = true := by
 obtain ⟨T, hT, hsT, hzT⟩ := term_of (m := raw (at_ l 5) % 256) (by omega)
 rw [← show pk (at_ l 5) 256 = ((raw (at_ l 5) % 256 : Nat) : Int) from pk_raw (at_in hl 5 (by decide)) 256] at hT
 obtain ⟨kL, L, hL, hsL, hzL⟩ := labels_right (l := [at_ l 3, at_ l 2]) (fun x hx => by
  rcases List.mem_cons.1 hx with rfl | hx
  ·exact at_in hl 3 (by decide)
  ·rw [List.mem_singleton.1 hx]; exact at_in hl 2 (by decide)) (by simp)
 refine ⟨T, L, kL, name12 hi, hT, hL, hzT, by omega, ?_⟩
 obtain ⟨n1, n2⟩ := nine_of (i := raw ri % 9) (by omega)
 have hK := kOf_raw hk
 have p (i : Int) (h : 0 ≤ i) (n : Nat) : pk (at_ l i) (n : Int) = ((raw (at_ l i) % n : Nat) : Int) := pk_raw (at_in hl i h) n
 have p17 : pk rw_ 17 = ((raw rw_ % 17 : Nat) : Int) := pk_raw hw 17
 unfold rightO
 by_cases h1 : kOf rk = 1
 ·rw [if_pos h1]
  have hx : opX rk (nine (raw ri % 9)) l T = { fitW l T with f0 := nine (raw ri % 9) } := if_pos h1
  rw [hx]
  have hs : selS (fitW l T).f5 = true := by
   show selS (if pk (at_ l 4) 3 = 2 then T else ⟨#[]⟩) = true
   by_cases h : pk (at_ l 4) 3 = 2
   ·rw [if_pos h]; exact hsT
   ·rw [if_neg h]; exact sel_nil
  have e1 : (fitW l T).f1 = ((raw (at_ l 0) % 9 : Nat) : Int) := p 0 (by decide) 9
  have e2 : (fitW l T).f2 = ((raw (at_ l 1) % 4 : Nat) : Int) := p 1 (by decide) 4
  have e3 : (fitW l T).f3 = wrap64 (1 + ((raw (at_ l 2) % 4 : Nat) : Int)) := by rw [← p 2 (by decide) 4]; rfl
  have e4 : (fitW l T).f4 = wrap64 (1 + ((raw (at_ l 3) % 8 : Nat) : Int)) := by rw [← p 3 (by decide) 8]; rfl
  rw [wrap64_in _ (by omega)] at e3 e4
  have hw : rightW { fitW l T with f0 := nine (raw ri % 9) } = true := by
   unfold rightW
   show (nm (nine (raw ri % 9)) && selS (fitW l T).f5 && inB (fitW l T).f1 0 16 && inB (fitW l T).f2 0 9 && inB (fitW l T).f3 1 16 && inB (fitW l T).f4 1 16) = true
   rw [n1, hs, e1, e2, e3, e4, inB_of (by omega) (by omega), inB_of (by omega) (by omega), inB_of (by omega) (by omega), inB_of (by omega) (by omega)]
   rfl
  unfold rightP goW goN
  rw [hw]
  show (true && true && (true && lt ByteArray.empty (nine (raw ri % 9)) && goW [] _) && true) = true
  rw [n2]
  rfl
 ·rw [if_neg h1]
  by_cases h4 : kOf rk = 4
  ·rw [if_pos h4]
   have hx : opY rk (nine (raw ri % 9)) l L = { fitN l L with f0 := nine (raw ri % 9) } := if_pos h4
   rw [hx]
   have hs : labS (fitN l L).f3 = true := by
      show labS (if pk (at_ l 2) 2 = 1 then L else ⟨#[]⟩) = true
      by_cases h : pk (at_ l 2) 2 = 1
      ·rw [if_pos h]; exact hsL
      ·rw [if_neg h]; exact lab_nil
   have e1 : (fitN l L).f1 = ((raw (at_ l 0) % 3 : Nat) : Int) := p 0 (by decide) 3
   have e2 : (fitN l L).f2 = ((raw (at_ l 1) % 5 : Nat) : Int) := p 1 (by decide) 5
   have hw : rightN { fitN l L with f0 := nine (raw ri % 9) } = true := by
      unfold rightN
      show (nm (nine (raw ri % 9)) && labS (fitN l L).f3 && inB (fitN l L).f1 0 2 && inB (fitN l L).f2 0 4) = true
      rw [n1, hs, e1, e2, inB_of (by omega) (by omega), inB_of (by omega) (by omega)]
      rfl
   unfold rightP goW goN
   rw [hw]
   show (true && true && true && (true && lt ByteArray.empty (nine (raw ri % 9)) && goN [] _)) = true
   rw [n2]
   rfl
  ·rw [if_neg h4]
   by_cases h2 : kOf rk = 2
   ·rw [if_pos h2, n1, p17, inB_of (by omega) (by omega)]; rfl
   rw [if_neg h2]
   by_cases h3 : kOf rk = 3
   ·rw [if_pos h3]; exact n1
   rw [if_neg h3]
   by_cases h5 : kOf rk = 5
   ·rw [if_pos h5]; exact n1
   rw [if_neg h5]
   by_cases h6 : kOf rk = 6
   ·rw [if_pos h6]; exact n1
   rw [if_neg h6]
   by_cases h7 : kOf rk = 7
   ·rw [if_pos h7]; exact n1
   rw [if_neg h7]
   exact decide_eq_true (by omega)
end Go.Proofs.YtldlkbjbfgieeaaGreatDoor.Of
