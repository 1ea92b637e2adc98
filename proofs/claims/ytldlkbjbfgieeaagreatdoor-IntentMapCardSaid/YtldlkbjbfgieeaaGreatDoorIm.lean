/- IntentMap: the walk. -/
import Derived.Test.YtldlkbjbfgieeaaGreatDoorAw
import Derived.Test.YtldlkbjbfgieeaaGreatDoorMs
namespace Go.Proofs.YtldlkbjbfgieeaaGreatDoor.Im
set_option linter.unusedVariables false
set_option linter.unusedSimpArgs false
open Go.RowKit Go.Proofs.YtldlkbjbfgieeaaGreatDoorW.PrintWords Go.Proofs.YtldlkbjbfgieeaaGreatDoorW.PrintLast Go.Proofs.YtldlkbjbfgieeaaGreatDoor.Mo Go.Proofs.YtldlkbjbfgieeaaGreatDoor.Q Go.Proofs.YtldlkbjbfgieeaaGreatDoor.Rw Go.Proofs.YtldlkbjbfgieeaaGreatDoor.Cb Go.Proofs.YtldlkbjbfgieeaaGreatDoor.Ch Go.Proofs.YtldlkbjbfgieeaaGreatDoor.Ap Go.Proofs.YtldlkbjbfgieeaaGreatDoor.St Go.Proofs.YtldlkbjbfgieeaaGreatDoor.Su Go.Proofs.YtldlkbjbfgieeaaGreatDoor.Ft Go.Proofs.YtldlkbjbfgieeaaGreatDoor.Op Go.Proofs.YtldlkbjbfgieeaaGreatDoor.Of Go.Proofs.YtldlkbjbfgieeaaGreatDoor.Is Go.Proofs.YtldlkbjbfgieeaaGreatDoor.Mp Go.Proofs.YtldlkbjbfgieeaaGreatDoor.Ms
open Go.Proofs.YtldlkbjbfgieeaaGreatDoor.La (In64 raw)
open Go.Proofs.YtldlkbjbfgieeaaGreatDoor.Ri (rightS rightO stV Small)
def TW (w w' : World) (p : Nat) (mw : List W) : Prop := k32.R 47 w' w.heap.size (fun _ => True) (.slice (some ⟨p, 0, none⟩) 9 9) mw
def TN (w w' : World) (p : Nat) (mn : List N) : Prop := k34.R 48 w' w.heap.size (fun _ => True) (.slice (some ⟨p, 0, none⟩) 9 9) mn
/-- the state and the two tables -/
def Mb (w w' : World) (g p q : Nat) (e : Int) (A B : Option Addr) (c d : Nat) (ws : List W) (ns : List N) (mw : List W) (mn : List N) : Prop := Fs w w' g e A B c d ws ns ∧ TW w w' p mw ∧ TN w w' q mn
theorem Mb.below {w w' w2 : World} {g p q : Nat} {e : Int} {A B : Option Addr} {c d : Nat} {ws : List W} {ns : List N} {mw : List W} {mn : List N} (h : Mb w w' g p q e A B c d ws ns mw mn) (hb : Below w'.heap.size w' w2) : Mb w w2 g p q e A B c d ws ns mw mn := ⟨h.1.below hb, Kd.R_below h.2.1 hb, Kd.R_below h.2.2 hb⟩
abbrev tabW : Obj := .cells #[.string ⟨#[]⟩, .int .i64 0, .int .i64 0, .int .i64 0, .int .i64 0, .string ⟨#[]⟩, .string ⟨#[]⟩, .int .i64 0, .int .i64 0, .int .i64 0, .int .i64 0, .string ⟨#[]⟩, .string ⟨#[]⟩, .int .i64 0, .int .i64 0, .int .i64 0, .int .i64 0, .string ⟨#[]⟩, .string ⟨#[]⟩, .int .i64 0, .int .i64 0, .int .i64 0, .int .i64 0, .string ⟨#[]⟩, .string ⟨#[]⟩, .int .i64 0, .int .i64 0, .int .i64 0, .int .i64 0, .string ⟨#[]⟩, .string ⟨#[]⟩, .int .i64 0, .int .i64 0, .int .i64 0, .int .i64 0, .string ⟨#[]⟩, .string ⟨#[]⟩, .int .i64 0, .int .i64 0, .int .i64 0, .int .i64 0, .string ⟨#[]⟩, .string ⟨#[]⟩, .int .i64 0, .int .i64 0, .int .i64 0, .int .i64 0, .string ⟨#[]⟩, .string ⟨#[]⟩, .int .i64 0, .int .i64 0, .int .i64 0, .int .i64 0, .string ⟨#[]⟩] 47
abbrev tabN : Obj := .cells #[.string ⟨#[]⟩, .int .i64 0, .int .i64 0, .string ⟨#[]⟩, .bool false, .string ⟨#[]⟩, .int .i64 0, .int .i64 0, .string ⟨#[]⟩, .bool false, .string ⟨#[]⟩, .int .i64 0, .int .i64 0, .string ⟨#[]⟩, .bool false, .string ⟨#[]⟩, .int .i64 0, .int .i64 0, .string ⟨#[]⟩, .bool false, .string ⟨#[]⟩, .int .i64 0, .int .i64 0, .string ⟨#[]⟩, .bool false, .string ⟨#[]⟩, .int .i64 0, .int .i64 0, .string ⟨#[]⟩, .bool false, .string ⟨#[]⟩, .int .i64 0, .int .i64 0, .string ⟨#[]⟩, .bool false, .string ⟨#[]⟩, .int .i64 0, .int .i64 0, .string ⟨#[]⟩, .bool false, .string ⟨#[]⟩, .int .i64 0, .int .i64 0, .string ⟨#[]⟩, .bool false] 48
theorem row_W {w : World} {base q : Nat} (l : List W) (hq : w.heap[q]? = some (.cells (InW.fl l).toArray 47 (0, 0))) (hb : base ≤ q) (hm : l.length = 9) : k32.R 47 w base (fun _ => True) (.slice (some ⟨q, 0, none⟩) 9 9) l := by
  refine ⟨fun _ _ => trivial, InW.fl l, ?_, (reps_flat (R := k32.M w base (fun k => True ∧ some k ≠ Value.ownBlock (.slice (some ⟨q, 0, none⟩) 9 9))) (fun x cs => InW.kM) InW.fx_len l _).2 rfl⟩
  have hlen : (InW.fl l).length = l.length * 6 := InW.fl_len l
  refine ⟨hlen, .inr ⟨q, 9, _, by rw [hm], hb, hq, by omega, by decide, by rw [List.size_toArray, hlen, hm]; rfl, ?_⟩⟩
  show List.take (l.length * 6) _ = _
  rw [← hlen]
  exact List.take_length
theorem row_N {w : World} {base q : Nat} (l : List N) (hq : w.heap[q]? = some (.cells (InN.fl l).toArray 48 (0, 0))) (hb : base ≤ q) (hm : l.length = 9) : k34.R 48 w base (fun _ => True) (.slice (some ⟨q, 0, none⟩) 9 9) l := by
  refine ⟨fun _ _ => trivial, InN.fl l, ?_, (reps_flat (R := k34.M w base (fun k => True ∧ some k ≠ Value.ownBlock (.slice (some ⟨q, 0, none⟩) 9 9))) (fun x cs => InN.kM) InN.fx_len l _).2 rfl⟩
  have hlen : (InN.fl l).length = l.length * 5 := InN.fl_len l
  refine ⟨hlen, .inr ⟨q, 9, _, by rw [hm], hb, hq, by omega, by decide, by rw [List.size_toArray, hlen, hm]; rfl, ?_⟩⟩
  show List.take (l.length * 5) _ = _
  rw [← hlen]
  exact List.take_length
theorem rdW (l : List W) (j : Nat) : rd_T32 l (j : Int) = l.getD j zW := by unfold rd_T32; rw [Int.toNat_natCast]
theorem rdN (l : List N) (j : Nat) : rd_T34 l (j : Int) = l.getD j zN := by unfold rd_T34; rw [Int.toNat_natCast]
theorem tabW_at {w w' : World} {p : Nat} {mw : List W} (h : TW w w' p mw) {j : Nat} (hj : j < 9) : w'.cell? ⟨p, j * 6, none⟩ = some (.string (mw.getD j zW).f0) ∧ w'.cell? ⟨p, j * 6 + 1, none⟩ = some (.int .i64 (mw.getD j zW).f1) ∧ w'.cell? ⟨p, j * 6 + 2, none⟩ = some (.int .i64 (mw.getD j zW).f2) ∧ w'.cell? ⟨p, j * 6 + 3, none⟩ = some (.int .i64 (mw.getD j zW).f3) ∧ w'.cell? ⟨p, j * 6 + 4, none⟩ = some (.int .i64 (mw.getD j zW).f4) ∧ w'.cell? ⟨p, j * 6 + 5, none⟩ = some (.string (mw.getD j zW).f5) ∧ ∀ i, w'.frozen? ⟨p, j * 6 + i, none⟩ = false := by
  obtain ⟨cc, h1, h2, h3, h4⟩ := Kd.R_elem h zW (j : Int) (by omega) (by omega)
  rw [Int.toNat_natCast] at h2 h3 h4
  have hc := k32_openM h2
  subst hc
  exact ⟨h3 0 _ rfl, h3 1 _ rfl, h3 2 _ rfl, h3 3 _ rfl, h3 4 _ rfl, h3 5 _ rfl, h4⟩
theorem tabN_at {w w' : World} {p : Nat} {mn : List N} (h : TN w w' p mn) {j : Nat} (hj : j < 9) : w'.cell? ⟨p, j * 5, none⟩ = some (.string (mn.getD j zN).f0) ∧ w'.cell? ⟨p, j * 5 + 1, none⟩ = some (.int .i64 (mn.getD j zN).f1) ∧ w'.cell? ⟨p, j * 5 + 2, none⟩ = some (.int .i64 (mn.getD j zN).f2) ∧ w'.cell? ⟨p, j * 5 + 3, none⟩ = some (.string (mn.getD j zN).f3) ∧ w'.cell? ⟨p, j * 5 + 4, none⟩ = some (.bool (mn.getD j zN).f4) ∧ ∀ i, w'.frozen? ⟨p, j * 5 + i, none⟩ = false := by
  obtain ⟨cc, h1, h2, h3, h4⟩ := Kd.R_elem h zN (j : Int) (by omega) (by omega)
  rw [Int.toNat_natCast] at h2 h3 h4
  have hc := k34_openM h2
  subst hc
  exact ⟨h3 0 _ rfl, h3 1 _ rfl, h3 2 _ rfl, h3 3 _ rfl, h3 4 _ rfl, h4⟩
theorem tabW_put {w w' : World} {p : Nat} {mw : List W} (h : TW w w' p mw) {j : Nat} (hj : j < 9) (x : W) : TW w ((((((w'.setCell ⟨p, j * 6, none⟩ (.string x.f0)).setCell ⟨p, j * 6 + 1, none⟩ (.int .i64 x.f1)).setCell ⟨p, j * 6 + 2, none⟩ (.int .i64 x.f2)).setCell ⟨p, j * 6 + 3, none⟩ (.int .i64 x.f3)).setCell ⟨p, j * 6 + 4, none⟩ (.int .i64 x.f4)).setCell ⟨p, j * 6 + 5, none⟩ (.string x.f5)) p (mw.set j x) ∧ w'.grownBy ((((((w'.setCell ⟨p, j * 6, none⟩ (.string x.f0)).setCell ⟨p, j * 6 + 1, none⟩ (.int .i64 x.f1)).setCell ⟨p, j * 6 + 2, none⟩ (.int .i64 x.f2)).setCell ⟨p, j * 6 + 3, none⟩ (.int .i64 x.f3)).setCell ⟨p, j * 6 + 4, none⟩ (.int .i64 x.f4)).setCell ⟨p, j * 6 + 5, none⟩ (.string x.f5)) (some p) := by
  obtain ⟨cc, h1, h2, h3, h4⟩ := Kd.R_elem h zW (j : Int) (by omega) (by omega)
  rw [Int.toNat_natCast] at h2 h3 h4
  have hc := k32_openM h2
  subst hc
  have h5 := Kd.R_seg (okp := fun _ => False) h (j : Int) (by omega) (by omega) (seg := [.string x.f0, .int .i64 x.f1, .int .i64 x.f2, .int .i64 x.f3, .int .i64 x.f4, .string x.f5]) (j := 0) h1 (by rw [Int.toNat_natCast]; exact h3) (Nat.le_of_ble_eq_true rfl) (x' := x) (k32_mkM _ _ _ _) (fun _ hf => hf.elim)
  rw [Int.toNat_natCast] at h5
  exact h5
theorem tabN_put {w w' : World} {p : Nat} {mw : List N} (h : TN w w' p mw) {j : Nat} (hj : j < 9) (x : N) : TN w (((((w'.setCell ⟨p, j * 5, none⟩ (.string x.f0)).setCell ⟨p, j * 5 + 1, none⟩ (.int .i64 x.f1)).setCell ⟨p, j * 5 + 2, none⟩ (.int .i64 x.f2)).setCell ⟨p, j * 5 + 3, none⟩ (.string x.f3)).setCell ⟨p, j * 5 + 4, none⟩ (.bool x.f4)) p (mw.set j x) ∧ w'.grownBy (((((w'.setCell ⟨p, j * 5, none⟩ (.string x.f0)).setCell ⟨p, j * 5 + 1, none⟩ (.int .i64 x.f1)).setCell ⟨p, j * 5 + 2, none⟩ (.int .i64 x.f2)).setCell ⟨p, j * 5 + 3, none⟩ (.string x.f3)).setCell ⟨p, j * 5 + 4, none⟩ (.bool x.f4)) (some p) := by
  obtain ⟨cc, h1, h2, h3, h4⟩ := Kd.R_elem h zN (j : Int) (by omega) (by omega)
  rw [Int.toNat_natCast] at h2 h3 h4
  have hc := k34_openM h2
  subst hc
  have h5 := Kd.R_seg (okp := fun _ => False) h (j : Int) (by omega) (by omega) (seg := [.string x.f0, .int .i64 x.f1, .int .i64 x.f2, .string x.f3, .bool x.f4]) (j := 0) h1 (by rw [Int.toNat_natCast]; exact h3) (Nat.le_of_ble_eq_true rfl) (x' := x) (k34_mkM _ _ _ _) (fun _ hf => hf.elim)
  rw [Int.toNat_natCast] at h5
  exact h5
theorem tabW_want {w w' : World} {p : Nat} {mw : List W} (h : TW w w' p mw) {j : Nat} (hj : j < 9) (want : Int) : TW w (w'.setCell ⟨p, j * 6 + 1, none⟩ (.int .i64 want)) p (mw.set j { mw.getD j zW with f1 := want }) ∧ w'.grownBy (w'.setCell ⟨p, j * 6 + 1, none⟩ (.int .i64 want)) (some p) := by
  obtain ⟨cc, h1, h2, h3, h4⟩ := Kd.R_elem h zW (j : Int) (by omega) (by omega)
  rw [Int.toNat_natCast] at h2 h3 h4
  have hc := k32_openM h2
  subst hc
  have h5 := Kd.R_seg (okp := fun _ => False) h (j : Int) (by omega) (by omega) (seg := [.int .i64 want]) (j := 1) h1 (by rw [Int.toNat_natCast]; exact h3) (Nat.le_of_ble_eq_true rfl) (x' := { mw.getD j zW with f1 := want }) (k32_mkM _ _ _ _) (fun _ hf => hf.elim)
  rw [Int.toNat_natCast] at h5
  exact h5
theorem tabN_cord {w w' : World} {p : Nat} {mw : List N} (h : TN w w' p mw) {j : Nat} (hj : j < 9) (b : Bool) : TN w (w'.setCell ⟨p, j * 5 + 4, none⟩ (.bool b)) p (mw.set j { mw.getD j zN with f4 := b }) ∧ w'.grownBy (w'.setCell ⟨p, j * 5 + 4, none⟩ (.bool b)) (some p) := by
  obtain ⟨cc, h1, h2, h3, h4⟩ := Kd.R_elem h zN (j : Int) (by omega) (by omega)
  rw [Int.toNat_natCast] at h2 h3 h4
  have hc := k34_openM h2
  subst hc
  have h5 := Kd.R_seg (okp := fun _ => False) h (j : Int) (by omega) (by omega) (seg := [.bool b]) (j := 4) h1 (by rw [Int.toNat_natCast]; exact h3) (Nat.le_of_ble_eq_true rfl) (x' := { mw.getD j zN with f4 := b }) (k34_mkM _ _ _ _) (fun _ hf => hf.elim)
  rw [Int.toNat_natCast] at h5
  exact h5
theorem Fs.over {w w' w2 : World} {g : Nat} {e : Int} {A B : Option Addr} {c d : Nat} {ws : List W} {ns : List N} (h : Fs w w' g e A B c d ws ns) {α : Type} {k : Kd α} {e' p : Nat} {m : List α} (hv : k.R e' w' w.heap.size (fun _ => True) (.slice (some ⟨p, 0, none⟩) 9 9) m) (h1 : e' ≠ 27) (h2 : e' ≠ 32) (h3 : e' ≠ 34) (hg : w'.grownBy w2 (some p)) : Fs w w2 g e A B c d ws ns :=
  ⟨(hg.block _ (blk_lt h.1) (Kd.R_ne hv h.1 h1)).trans h.1, h.2.1.imp fun _ r => Kd.R_over r hv (fun q hq => by rw [List.mem_singleton.1 hq]; exact fun q => h2 q.symm) hg, h.2.2.1.imp fun _ r => Kd.R_over r hv (fun q hq => by rw [List.mem_singleton.1 hq]; exact fun q => h3 q.symm) hg, h.2.2.2.grown hg h.2.2.2.size (fun k hk => by
    rcases Kd.R_base2 hv with q | ⟨b, q, q2⟩
    · cases q
    · have q' : p = b := Option.some.inj q
      have k' : p = k := Option.some.inj hk
      omega)⟩
theorem Mb.putW {w w' w2 : World} {g p q : Nat} {e : Int} {A B : Option Addr} {c d : Nat} {ws : List W} {ns : List N} {mw mw' : List W} {mn : List N} (h : Mb w w' g p q e A B c d ws ns mw mn) (hR : TW w w2 p mw') (hG : w'.grownBy w2 (some p)) : Mb w w2 g p q e A B c d ws ns mw' mn :=
  ⟨Fs.over h.1 h.2.1 (by decide) (by decide) (by decide) hG, hR, Kd.R_over h.2.2 h.2.1 (fun q hq => by rw [List.mem_singleton.1 hq]; decide) hG⟩
theorem Mb.putN {w w' w2 : World} {g p q : Nat} {e : Int} {A B : Option Addr} {c d : Nat} {ws : List W} {ns : List N} {mw : List W} {mn mn' : List N} (h : Mb w w' g p q e A B c d ws ns mw mn) (hR : TN w w2 q mn') (hG : w'.grownBy w2 (some q)) : Mb w w2 g p q e A B c d ws ns mw mn' :=
  ⟨Fs.over h.1 h.2.2 (by decide) (by decide) (by decide) hG, Kd.R_over h.2.1 h.2.2 (fun q hq => by rw [List.mem_singleton.1 hq]; decide) hG, hR⟩
/-- the new state beside them -/
def Mt (w w' : World) (g p q t : Nat) (e : Int) (A B : Option Addr) (c d : Nat) (ws : List W) (ns : List N) (mw : List W) (mn : List N) (e2 : Int) (A2 B2 : Option Addr) (c2 d2 : Nat) (ws2 : List W) (ns2 : List N) : Prop := Mb w w' g p q e A B c d ws ns mw mn ∧ Fs w w' t e2 A2 B2 c2 d2 ws2 ns2
theorem Mt.putW {w w' w2 : World} {g p q t : Nat} {e : Int} {A B : Option Addr} {c d : Nat} {ws : List W} {ns : List N} {mw mw' : List W} {mn : List N} {e2 : Int} {A2 B2 : Option Addr} {c2 d2 : Nat} {ws2 : List W} {ns2 : List N} (h : Mt w w' g p q t e A B c d ws ns mw mn e2 A2 B2 c2 d2 ws2 ns2) (hR : TW w w2 p mw' ∧ w'.grownBy w2 (some p)) : Mt w w2 g p q t e A B c d ws ns mw' mn e2 A2 B2 c2 d2 ws2 ns2 :=
  ⟨h.1.putW hR.1 hR.2, Fs.over h.2 h.1.2.1 (by decide) (by decide) (by decide) hR.2⟩
theorem Mt.putN {w w' w2 : World} {g p q t : Nat} {e : Int} {A B : Option Addr} {c d : Nat} {ws : List W} {ns : List N} {mw : List W} {mn mn' : List N} {e2 : Int} {A2 B2 : Option Addr} {c2 d2 : Nat} {ws2 : List W} {ns2 : List N} (h : Mt w w' g p q t e A B c d ws ns mw mn e2 A2 B2 c2 d2 ws2 ns2) (hR : TN w w2 q mn' ∧ w'.grownBy w2 (some q)) : Mt w w2 g p q t e A B c d ws ns mw mn' e2 A2 B2 c2 d2 ws2 ns2 :=
  ⟨h.1.putN hR.1 hR.2, Fs.over h.2 h.1.2.2 (by decide) (by decide) (by decide) hR.2⟩
theorem emp_yes {b : ByteArray} (h : b = ByteArray.empty) : b.toList.isEmpty = true := by rw [h, ByteArray.toList_eq]; rfl
theorem emp_no {b : ByteArray} (h : b ≠ ByteArray.empty) : b.toList.isEmpty = false := by
  cases q : b.toList with
  | cons => rfl
  | nil =>
    rw [ByteArray.toList_eq] at q
    obtain ⟨d⟩ := b
    exact absurd (congrArg ByteArray.mk (Array.toList_inj.1 q)) h
theorem sOf2 {w w' : World} {g p q t : Nat} {e : Int} {A B : Option Addr} {c d : Nat} {ws : List W} {ns : List N} {mw : List W} {mn : List N} {e2 : Int} {A2 B2 : Option Addr} {c2 d2 : Nat} {ws2 : List W} {ns2 : List N} (h : Mt w w' g p q t e A B c d ws ns mw mn e2 A2 B2 c2 d2 ws2 ns2) :
    w'.cell? ⟨g, 0, none⟩ = some (.int .i64 e) ∧ w'.cell? ⟨g, 1, none⟩ = some (.slice A ws.length c) ∧ w'.cell? ⟨g, 2, none⟩ = some (.slice B ns.length d) ∧ w'.cell? ⟨t, 0, none⟩ = some (.int .i64 e2) ∧ w'.cell? ⟨t, 1, none⟩ = some (.slice A2 ws2.length c2) ∧ w'.cell? ⟨t, 2, none⟩ = some (.slice B2 ns2.length d2) ∧ w'.frozen? ⟨g, 0, none⟩ = false ∧ w'.frozen? ⟨g, 1, none⟩ = false ∧ w'.frozen? ⟨g, 2, none⟩ = false :=
  ⟨(blk_cell h.1.1.1 0).trans rfl, (blk_cell h.1.1.1 1).trans rfl, (blk_cell h.1.1.1 2).trans rfl, (blk_cell h.2.1 0).trans rfl, (blk_cell h.2.1 1).trans rfl, (blk_cell h.2.1 2).trans rfl, blk_frozen h.1.1.1 0, blk_frozen h.1.1.1 1, blk_frozen h.1.1.1 2⟩
set_option maxHeartbeats 8000000 in
set_option maxRecDepth 100000 in
theorem map_any (A0 : Option Addr) (c0 : Nat) (l : List S40) (w : World) (hl : Kd.C k40 w A0 l.length l) (hc : l.length ≤ c0) (hV : ∀ x ∈ l, In64 x.f0 ∧ In64 x.f1 ∧ In64 x.f2 ∧ ∀ z ∈ x.f3, In64 z) :
    Calls Tryz.prog 6 #[.slice A0 l.length c0] w fun e w' => e = .returned (.bool true) ∧ Below w.heap.size w w' := by
  go_enter Tryz.func6, Tryz.ntmps6
  go_upto_block 0 with (first | (go_at_call 11; refine (Aw.awake_any _).mono ?_; rintro e w1 ⟨rfl, hb1⟩))
  have hs1 : (w1.alloc stZ).heap.size = w1.heap.size + 1 := by simp
  have hs2 : ((w1.alloc stZ).alloc tabW).heap.size = w1.heap.size + 1 + 1 := by simp
  have hM := Aside0.mk (show Mb w (((w1.alloc stZ).alloc tabW).alloc tabN) w1.heap.size (w1.heap.size + 1) (w1.heap.size + 1 + 1) 0 none none 0 0 [] [] (List.replicate 9 zW) (List.replicate 9 zN) from
    ⟨⟨blk_alloc (blk_alloc (blk_new w1 stZ) tabW) tabN, ⟨0, Kd.R_nil _ _ _ _ _⟩, ⟨0, Kd.R_nil _ _ _ _ _⟩, below_alloc (below_alloc (below_alloc hb1 stZ) tabW) tabN⟩,
      row_W _ (blk_alloc (by rw [← hs1]; exact blk_new (w1.alloc stZ) tabW) tabN) (by have := hb1.size; omega) rfl, row_N _ (by rw [← hs2]; exact blk_new ((w1.alloc stZ).alloc tabW) tabN) (by have := hb1.size; omega) rfl⟩)
  have hge := hb1.size
  clear hb1 hs1 hs2
  generalize w1.heap.size + 1 + 1 = q at *
  generalize w1.heap.size + 1 = p at *
  generalize w1.heap.size = g at *
  revert hM
  generalize ((w1.alloc stZ).alloc tabW).alloc tabN = wa
  intro hM
  go_cut [7, 8] (fun s7 s8 wx => ∃ (e : Int) (A B : Option Addr) (c d : Nat) (ws : List W) (ns : List N) (mw : List W) (mn : List N), s7 = .int .i64 (ws.length : Int) ∧ s8 = .int .i64 (ns.length : Int) ∧ rightS e ws ns = true ∧ ws.length ≤ c ∧ ns.length ≤ d ∧ J fw zW ws mw ∧ J fn zN ns mn ∧ Aside0 (Mb w wx g p q e A B c d ws ns mw mn))
  case first =>
    go_wp2_with fail
    go_loopg [7, 8, 9] 60 (fun kq v7 v8 v9 w' => ∃ (i : Nat) (e : Int) (A B : Option Addr) (c d : Nat) (ws : List W) (ns : List N) (mw : List W) (mn : List N), v7 = .int .i64 (ws.length : Int) ∧ v8 = .int .i64 (ns.length : Int) ∧ v9 = .int .i64 (i : Int) ∧ i + kq = 60 ∧ e ≤ i ∧ rightS e ws ns = true ∧ ws.length ≤ c ∧ ns.length ≤ d ∧ Small ws ns ∧ J fw zW ws mw ∧ J fn zN ns mn ∧ Aside0 (Mb w w' g p q e A B c d ws ns mw mn))
    case atStart => exact ⟨0, 0, none, none, 0, 0, [], [], _, _, rfl, rfl, rfl, rfl, Int.le_refl _, by decide, Nat.le_refl _, Nat.le_refl _, ⟨fun z h => (by cases h), fun z h => (by cases h)⟩, J.nil fw zW rfl, J.nil fn zN rfl, hM⟩
    case round =>
      clear hM
      obtain ⟨i, e, A, B, c, d, ws, ns, mw, mn, rfl, rfl, rfl, hik, hei, hrs, hlc, hld, hsm, hJW, hJN, hM⟩ := hrel
      by_cases h1 : i < l.length ∧ i < 60
      · obtain ⟨m, rfl⟩ : ∃ m, gk = m + 1 := ⟨gk - 1, by omega⟩
        have d1 : decide ((i : Int) < (l.length : Int)) = true := by simp; exact h1.1
        have d2 : decide ((i : Int) < 60) = true := by simp; omega
        have hl' := Kd.C_below hl hM.out.1.2.2.2
        obtain ⟨ad, Ar, cr, rfl, k0, k1, k2, k3, hcr, hCr⟩ := at_T40 hl (i : Int) (by omega) (by omega)
        have hX := hV (rd_T40 l (i : Int)) (by
          unfold rd_T40
          rw [Int.toNat_natCast, List.getD_eq_getElem?_getD, List.getElem?_eq_getElem h1.1]
          exact List.getElem_mem _)
        generalize rd_T40 l (i : Int) = X at *
        rw [Int.toNat_natCast] at k0 k1 k2 k3
        have hraw : RawAt w (ad.add (i * 4)) X Ar cr := ⟨k0, k1, k2, k3⟩
        clear k0 k1 k2 k3 hl'
        obtain ⟨T, L, kL, e1, e2, e3, e4, e5, e6⟩ := op_right hX.1 hX.2.1 hX.2.2.1 hX.2.2.2
        have hpk := pick12 hX.2.1 9 (by decide)
        have hj : raw X.f1 % 9 < 9 := Nat.mod_lt _ (by decide)
        have hop := Lib.hid (fun W (hB : Below w.heap.size w W) => op_any X.f0 X.f1 X.f2 Ar cr X.f3 _ T L kL W hcr (Kd.C_below hCr hB) e1 e2 e3)
        have hsx : (opX X.f0 (nine (raw X.f1 % 9)) X.f3 T).f5.size < 4294967281 := opX_small e4
        have hsy : (opY X.f0 (nine (raw X.f1 % 9)) X.f3 L).f3.size < 4294967281 := opY_small e5
        have hx1 : kOf X.f0 = 1 → (opX X.f0 (nine (raw X.f1 % 9)) X.f3 T).f0 = nine (raw X.f1 % 9) := fun h => by rw [show opX X.f0 (nine (raw X.f1 % 9)) X.f3 T = { fitW X.f3 T with f0 := nine (raw X.f1 % 9) } from if_pos h]
        have hx4 : kOf X.f0 = 4 → (opY X.f0 (nine (raw X.f1 % 9)) X.f3 L).f0 = nine (raw X.f1 % 9) := fun h => by rw [show opY X.f0 (nine (raw X.f1 % 9)) X.f3 L = { fitN X.f3 L with f0 := nine (raw X.f1 % 9) } from if_pos h]
        generalize kOf X.f0 = kk at *
        generalize opX X.f0 (nine (raw X.f1 % 9)) X.f3 T = xx at *
        generalize opY X.f0 (nine (raw X.f1 % 9)) X.f3 L = yy at *
        generalize raw X.f1 % 9 = j at *
        generalize pk X.f2 17 = wn at *
        have hlaw := step_law (x := xx) (y := yy) (want := wn) hrs hj e6 hx1 hx4 (by omega) hJW hJN
        have hkk := op_range e6
        have hst := apply_stays (e := e) (ws := ws) (ns := ns) (k := kk) (x := xx) (y := yy) (id := nine j) (want := wn)
        have hsm2 := apply_small (e := e) (k := kk) (id := nine j) (want := wn) hsm hsx hsy
        have hap0 := fun W (hA : Kd.C k32 W A ws.length ws) (hN : Kd.C k34 W B ns.length ns) => apply_any e A B c d ws ns kk xx yy (nine j) wn W hA hlc hN hld hsm hsx hsy
        generalize applyS e ws ns kk xx yy (nine j) wn = R at *
        have hap := Lib.hid hap0
        have hst := Lib.hid hst
        have hlaw := Lib.hid hlaw
        have hge' := Lib.hid hge
        clear hap0 e1 e2 e3 e4 e5 hX hCr hcr hsx hsy hx1 hx4 e6
        have hpk := Lib.hid hpk
        have p1 : (0 ≤ (i : Int)) = True := eq_true (by omega)
        have q1 : ((i : Int) < (l.length : Int)) = True := eq_true (by omega)
        obtain ⟨r0, r1, r2, r3⟩ : RawAt wr (ad.add (i * 4)) X Ar cr := ⟨up hM.out.1.2.2.2 hraw.1, up hM.out.1.2.2.2 hraw.2.1, up hM.out.1.2.2.2 hraw.2.2.1, up hM.out.1.2.2.2 hraw.2.2.2⟩
        go_upto_block 2 with (first | (go_at_call 13; refine (hop.out _ hM.out.1.2.2.2).mono ?_; rintro e w5 ⟨rfl, hb5⟩; have hM5 := Aside0.mk ((hM.out.below hb5).below (below_alloc (Below.refl _ _) (opC kk xx yy (nine j) wn))); have hO := Aside0.mk (blk_new w5 (opC kk xx yy (nine j) wn)); have r1 := up hM5.out.1.2.2.2 hraw.2.1) | (go_at_call 17; refine (billetlaw12_pick.calls _ _ _ _ hpk.out).mono ?_; rintro e w6 ⟨rfl, hd6⟩; have hM6 := Aside0.mk (hM5.out.below hd6.below); have hO6 := Aside0.mk (blk_below hO.out hd6.below); obtain ⟨g0, g1, g2⟩ := Aw.sF hM6.out.1; have o0 := (blk_cell hO6.out 0).trans rfl; have o1 := (blk_cell hO6.out 1).trans rfl; have o2 := (blk_cell hO6.out 2).trans rfl; have o3 := (blk_cell hO6.out 3).trans rfl; have o4 := (blk_cell hO6.out 4).trans rfl; have o5 := (blk_cell hO6.out 5).trans rfl; have o6 := (blk_cell hO6.out 6).trans rfl; have o7 := (blk_cell hO6.out 7).trans rfl; have o8 := (blk_cell hO6.out 8).trans rfl; have o9 := (blk_cell hO6.out 9).trans rfl; have o10 := (blk_cell hO6.out 10).trans rfl; have o11 := (blk_cell hO6.out 11).trans rfl; have o12 := (blk_cell hO6.out 12).trans rfl; have o13 := (blk_cell hO6.out 13).trans rfl) | (go_at_call 12; refine (hap.out _ (rowW_C hM6.out.1.2.1) (rowN_C hM6.out.1.2.2.1)).mono ?_; rintro e w7 ⟨A2, B2, rfl, hRA, hRB, hb7⟩; have hM7 := Aside0.mk (hM6.out.below hb7); have hO7 := Aside0.mk (blk_below hO6.out hb7); have hCA := rowW_lower hRA (hM6.out.1.2.2.2.size); have hCB := rowN_lower hRB (hM6.out.1.2.2.2.size); have z0 := (blk_cell (blk_below hO7.out (below_alloc (Below.refl _ _) (stC R.1 A2 R.2.1.length R.2.1.length B2 R.2.2.1.length R.2.2.1.length))) 0).trans rfl))
        clear g0 g1 g2 z0 r0 r1 r2 r3 o0 o1 o2 o3 o4 o5 o6 o7 o8 o9 o10 o11 o12 o13 hM5 hb5 hd6 hM6 hO6 hRA hRB hb7 hO
        have hO8 := Aside0.mk (blk_below hO7.out (below_alloc (Below.refl _ _) (stC R.1 A2 R.2.1.length R.2.1.length B2 R.2.2.1.length R.2.2.1.length)))
        have hT8 := Aside0.mk (show Mt w (w7.alloc (stC R.1 A2 R.2.1.length R.2.1.length B2 R.2.2.1.length R.2.2.1.length)) g p q w7.heap.size e A B c d ws ns mw mn R.1 A2 B2 R.2.1.length R.2.2.1.length R.2.1 R.2.2.1 from
          ⟨hM7.out.below (below_alloc (Below.refl _ _) _), blk_new w7 _, rowW_below hCA (below_alloc (Below.refl _ _) _), rowN_below hCB (below_alloc (Below.refl _ _) _), below_alloc hM7.out.1.2.2.2 _⟩)
        have hgt := Nat.ne_of_lt (blk_lt hM7.out.1.1)
        have htg := hM7.out.1.2.2.2.size
        clear hM7 hO7 hCA hCB
        generalize w7.heap.size = t at *
        generalize w5.heap.size = o at *
        revert hO8; revert hT8
        generalize w7.alloc (stC R.1 A2 R.2.1.length R.2.1.length B2 R.2.2.1.length R.2.2.1.length) = wx
        intro hT8 hO8
        generalize hSt : stepM kk j xx yy wn mw mn ws.length ns.length = S at *
        go_cut [7, 8, 14] (fun s7 s8 s14 wy => s7 = .int .i64 (S.2.2.2.1 : Int) ∧ s8 = .int .i64 (S.2.2.2.2 : Int) ∧ s14 = .int .i64 S.1 ∧ Aside0 (Mt w wy g p q t e A B c d ws ns S.2.1 S.2.2.1 R.1 A2 B2 R.2.1.length R.2.2.1.length R.2.1 R.2.2.1))
        case first =>
          have hlenW : mw.length = 9 := (Kd.R_reads' hT8.out.1.2.1).1.symm
          have hlenN : mn.length = 9 := (Kd.R_reads' hT8.out.1.2.2).1.symm
          have cw := tabW_at hT8.out.1.2.1 hj
          have cn := tabN_at hT8.out.1.2.2 hj
          obtain ⟨vW, hvW⟩ : ∃ v, v = mw.getD j zW := ⟨_, rfl⟩
          obtain ⟨vN, hvN⟩ : ∃ v, v = mn.getD j zN := ⟨_, rfl⟩
          rw [← hvW] at cw
          rw [← hvN] at cn
          replace hvW := Lib.hid hvW
          replace hvN := Lib.hid hvN
          have hlens := Lib.hid (And.intro hlenW hlenN)
          clear hlenW hlenN
          have pj : (0 ≤ (j : Int)) = True := eq_true (by omega)
          have qj : ((j : Int) < 9) = True := eq_true (by omega)
          rcases (show kk = 1 ∨ kk = 2 ∨ kk = 3 ∨ kk = 4 ∨ kk = 5 ∨ kk = 6 ∨ kk = 7 ∨ kk = 8 from by omega) with rfl | rfl | rfl | rfl | rfl | rfl | rfl | rfl
          · obtain ⟨c0, c1, c2, c3, c4, c5, c6⟩ := cw
            by_cases h0 : vW.f0 = ByteArray.empty
            · have e0 := emp_yes h0
              by_cases h8 : 8 ≤ ws.length
              · have hS : S = (123, mw, mn, ws.length, ns.length) := by rw [← hSt]; unfold stepM; rw [if_pos rfl, if_pos (show (mw.getD j zW).f0 = ByteArray.empty from by rw [← hvW.out]; exact h0), if_pos h8]
                clear hSt
                subst hS
                have d8 : decide ((8 : Int) ≤ (ws.length : Int)) = true := by simp; omega
                clear hap hst hlaw
                go_wp2_with fail
                go_meet
                exact ⟨rfl, rfl, rfl, hT8⟩
              · have hS : S = (0, mw.set j xx, mn, ws.length + 1, ns.length) := by rw [← hSt]; unfold stepM; rw [if_pos rfl, if_pos (show (mw.getD j zW).f0 = ByteArray.empty from by rw [← hvW.out]; exact h0), if_neg h8]
                clear hSt
                subst hS
                have d8 : decide ((8 : Int) ≤ (ws.length : Int)) = false := by simp; omega
                have o1 := (blk_cell hO8.out 1).trans rfl
                have o2 := (blk_cell hO8.out 2).trans rfl
                have o3 := (blk_cell hO8.out 3).trans rfl
                have o4 := (blk_cell hO8.out 4).trans rfl
                have o5 := (blk_cell hO8.out 5).trans rfl
                have o6 := (blk_cell hO8.out 6).trans rfl
                have f0 : wx.frozen? ⟨p, j * 6, none⟩ = false := c6 0
                have f1 : wx.frozen? ⟨p, j * 6 + 1, none⟩ = false := c6 1
                have f2 : wx.frozen? ⟨p, j * 6 + 2, none⟩ = false := c6 2
                have f3 : wx.frozen? ⟨p, j * 6 + 3, none⟩ = false := c6 3
                have f4 : wx.frozen? ⟨p, j * 6 + 4, none⟩ = false := c6 4
                have f5 : wx.frozen? ⟨p, j * 6 + 5, none⟩ = false := c6 5
                clear hap hst hlaw
                go_wp2_with fail
                go_meet
                exact ⟨by first | rfl | exact congrArg (Value.int .i64) (by (try simp only [IntKind.wrap_i64]); (try unfold wrap64); omega), rfl, rfl, Aside0.mk (hT8.out.putW (tabW_put hT8.out.1.2.1 hj xx))⟩
            · have e0 := emp_no h0
              have hS : S = (121, mw, mn, ws.length, ns.length) := by rw [← hSt]; unfold stepM; rw [if_pos rfl, if_neg (show ¬ (mw.getD j zW).f0 = ByteArray.empty from by rw [← hvW.out]; exact h0)]
              clear hSt
              subst hS
              clear hap hst hlaw
              go_wp2_with fail
              go_meet
              exact ⟨rfl, rfl, rfl, hT8⟩
          · obtain ⟨c0, c1, c2, c3, c4, c5, c6⟩ := cw
            by_cases h0 : vW.f0 = ByteArray.empty
            · have e0 := emp_yes h0
              have hS : S = (122, mw, mn, ws.length, ns.length) := by rw [← hSt]; unfold stepM; rw [if_neg (by decide), if_neg (by decide), if_neg (by decide), if_pos rfl, if_pos (show (mw.getD j zW).f0 = ByteArray.empty from by rw [← hvW.out]; exact h0)]
              clear hSt
              subst hS
              clear hap hst hlaw
              go_wp2_with fail
              go_meet
              exact ⟨rfl, rfl, rfl, hT8⟩
            · have e0 := emp_no h0
              have hS : S = (0, mw.set j { mw.getD j zW with f1 := wn }, mn, ws.length, ns.length) := by rw [← hSt]; unfold stepM; rw [if_neg (by decide), if_neg (by decide), if_neg (by decide), if_pos rfl, if_neg (show ¬ (mw.getD j zW).f0 = ByteArray.empty from by rw [← hvW.out]; exact h0)]
              clear hSt
              subst hS
              have o0 := (blk_cell hO8.out 0).trans rfl
              have o13 := (blk_cell hO8.out 13).trans rfl
              have f1 : wx.frozen? ⟨p, j * 6 + 1, none⟩ = false := c6 1
              clear hap hst hlaw
              go_wp2_with fail
              go_meet
              exact ⟨rfl, rfl, rfl, Aside0.mk (hT8.out.putW (tabW_want hT8.out.1.2.1 hj wn))⟩
          · obtain ⟨c0, c1, c2, c3, c4, c5, c6⟩ := cw
            by_cases h0 : vW.f0 = ByteArray.empty
            · have e0 := emp_yes h0
              have hS : S = (122, mw, mn, ws.length, ns.length) := by rw [← hSt]; unfold stepM; rw [if_neg (by decide), if_neg (by decide), if_neg (by decide), if_neg (by decide), if_pos rfl, if_pos (show (mw.getD j zW).f0 = ByteArray.empty from by rw [← hvW.out]; exact h0)]
              clear hSt
              subst hS
              clear hap hst hlaw
              go_wp2_with fail
              go_meet
              exact ⟨rfl, rfl, rfl, hT8⟩
            · have e0 := emp_no h0
              have hS : S = (0, mw.set j zW, mn, ws.length - 1, ns.length) := by rw [← hSt]; unfold stepM; rw [if_neg (by decide), if_neg (by decide), if_neg (by decide), if_neg (by decide), if_pos rfl, if_neg (show ¬ (mw.getD j zW).f0 = ByteArray.empty from by rw [← hvW.out]; exact h0)]
              clear hSt
              subst hS
              have o0 := (blk_cell hO8.out 0).trans rfl
              have f0 : wx.frozen? ⟨p, j * 6, none⟩ = false := c6 0
              have f1 : wx.frozen? ⟨p, j * 6 + 1, none⟩ = false := c6 1
              have f2 : wx.frozen? ⟨p, j * 6 + 2, none⟩ = false := c6 2
              have f3 : wx.frozen? ⟨p, j * 6 + 3, none⟩ = false := c6 3
              have f4 : wx.frozen? ⟨p, j * 6 + 4, none⟩ = false := c6 4
              have f5 : wx.frozen? ⟨p, j * 6 + 5, none⟩ = false := c6 5
              have hw8 := (rightS_iff.1 hrs).2.1
              have hn8 := (rightS_iff.1 hrs).2.2.1
              have hpos := Nat.lt_of_le_of_lt (Nat.zero_le _) (cnt_lt (rightS_iff.1 hrs).2.2.2.1.1 hJW hj (show fw (mw.getD j zW) ≠ ByteArray.empty from by rw [← hvW.out]; exact h0))
              clear hap hst hlaw
              go_wp2_with fail
              go_meet
              exact ⟨by first | rfl | exact congrArg (Value.int .i64) (by (try simp only [IntKind.wrap_i64]); (try unfold wrap64); omega), rfl, rfl, Aside0.mk (hT8.out.putW (tabW_put hT8.out.1.2.1 hj zW))⟩
          · obtain ⟨c0, c1, c2, c3, c4, c6⟩ := cn
            by_cases h0 : vN.f0 = ByteArray.empty
            · have e0 := emp_yes h0
              by_cases h8 : 8 ≤ ns.length
              · have hS : S = (123, mw, mn, ws.length, ns.length) := by rw [← hSt]; unfold stepM; rw [if_neg (by decide), if_pos rfl, if_pos (show (mn.getD j zN).f0 = ByteArray.empty from by rw [← hvN.out]; exact h0), if_pos h8]
                clear hSt
                subst hS
                have d8 : decide ((8 : Int) ≤ (ns.length : Int)) = true := by simp; omega
                clear hap hst hlaw
                go_wp2_with fail
                go_meet
                exact ⟨rfl, rfl, rfl, hT8⟩
              · have hS : S = (0, mw, mn.set j yy, ws.length, ns.length + 1) := by rw [← hSt]; unfold stepM; rw [if_neg (by decide), if_pos rfl, if_pos (show (mn.getD j zN).f0 = ByteArray.empty from by rw [← hvN.out]; exact h0), if_neg h8]
                clear hSt
                subst hS
                have d8 : decide ((8 : Int) ≤ (ns.length : Int)) = false := by simp; omega
                have o7 := (blk_cell hO8.out 7).trans rfl
                have o8 := (blk_cell hO8.out 8).trans rfl
                have o9 := (blk_cell hO8.out 9).trans rfl
                have o10 := (blk_cell hO8.out 10).trans rfl
                have o11 := (blk_cell hO8.out 11).trans rfl
                have f0 : wx.frozen? ⟨q, j * 5, none⟩ = false := c6 0
                have f1 : wx.frozen? ⟨q, j * 5 + 1, none⟩ = false := c6 1
                have f2 : wx.frozen? ⟨q, j * 5 + 2, none⟩ = false := c6 2
                have f3 : wx.frozen? ⟨q, j * 5 + 3, none⟩ = false := c6 3
                have f4 : wx.frozen? ⟨q, j * 5 + 4, none⟩ = false := c6 4
                clear hap hst hlaw
                go_wp2_with fail
                go_meet
                exact ⟨rfl, by first | rfl | exact congrArg (Value.int .i64) (by (try simp only [IntKind.wrap_i64]); (try unfold wrap64); omega), rfl, Aside0.mk (hT8.out.putN (tabN_put hT8.out.1.2.2 hj yy))⟩
            · have e0 := emp_no h0
              have hS : S = (121, mw, mn, ws.length, ns.length) := by rw [← hSt]; unfold stepM; rw [if_neg (by decide), if_pos rfl, if_neg (show ¬ (mn.getD j zN).f0 = ByteArray.empty from by rw [← hvN.out]; exact h0)]
              clear hSt
              subst hS
              clear hap hst hlaw
              go_wp2_with fail
              go_meet
              exact ⟨rfl, rfl, rfl, hT8⟩
          · obtain ⟨c0, c1, c2, c3, c4, c6⟩ := cn
            by_cases h0 : vN.f0 = ByteArray.empty
            · have e0 := emp_yes h0
              have hS : S = (122, mw, mn, ws.length, ns.length) := by rw [← hSt]; unfold stepM; rw [if_neg (by decide), if_neg (by decide), if_neg (by decide), if_neg (by decide), if_neg (by decide), if_pos rfl, if_pos (show (mn.getD j zN).f0 = ByteArray.empty from by rw [← hvN.out]; exact h0)]
              clear hSt
              subst hS
              clear hap hst hlaw
              go_wp2_with fail
              go_meet
              exact ⟨rfl, rfl, rfl, hT8⟩
            · have e0 := emp_no h0
              have hS : S = (0, mw, mn.set j zN, ws.length, ns.length - 1) := by rw [← hSt]; unfold stepM; rw [if_neg (by decide), if_neg (by decide), if_neg (by decide), if_neg (by decide), if_neg (by decide), if_pos rfl, if_neg (show ¬ (mn.getD j zN).f0 = ByteArray.empty from by rw [← hvN.out]; exact h0)]
              clear hSt
              subst hS
              have o0 := (blk_cell hO8.out 0).trans rfl
              have f0 : wx.frozen? ⟨q, j * 5, none⟩ = false := c6 0
              have f1 : wx.frozen? ⟨q, j * 5 + 1, none⟩ = false := c6 1
              have f2 : wx.frozen? ⟨q, j * 5 + 2, none⟩ = false := c6 2
              have f3 : wx.frozen? ⟨q, j * 5 + 3, none⟩ = false := c6 3
              have f4 : wx.frozen? ⟨q, j * 5 + 4, none⟩ = false := c6 4
              have hw8 := (rightS_iff.1 hrs).2.1
              have hn8 := (rightS_iff.1 hrs).2.2.1
              have hpos := Nat.lt_of_le_of_lt (Nat.zero_le _) (cnt_lt (rightS_iff.1 hrs).2.2.2.2.1 hJN hj (show fn (mn.getD j zN) ≠ ByteArray.empty from by rw [← hvN.out]; exact h0))
              clear hap hst hlaw
              go_wp2_with fail
              go_meet
              exact ⟨rfl, by first | rfl | exact congrArg (Value.int .i64) (by (try simp only [IntKind.wrap_i64]); (try unfold wrap64); omega), rfl, Aside0.mk (hT8.out.putN (tabN_put hT8.out.1.2.2 hj zN))⟩
          · obtain ⟨c0, c1, c2, c3, c4, c6⟩ := cn
            by_cases h0 : vN.f0 = ByteArray.empty
            · have e0 := emp_yes h0
              have hS : S = (122, mw, mn, ws.length, ns.length) := by rw [← hSt]; unfold stepM; rw [if_neg (by decide), if_neg (by decide), if_neg (by decide), if_neg (by decide), if_neg (by decide), if_neg (by decide), if_pos (show (mn.getD j zN).f0 = ByteArray.empty from by rw [← hvN.out]; exact h0)]
              clear hSt
              subst hS
              clear hap hst hlaw
              go_wp2_with fail
              go_meet
              exact ⟨rfl, rfl, rfl, hT8⟩
            · have e0 := emp_no h0
              have hS : S = (0, mw, mn.set j { mn.getD j zN with f4 := true }, ws.length, ns.length) := by rw [← hSt]; unfold stepM; rw [if_neg (by decide), if_neg (by decide), if_neg (by decide), if_neg (by decide), if_neg (by decide), if_neg (by decide), if_neg (show ¬ (mn.getD j zN).f0 = ByteArray.empty from by rw [← hvN.out]; exact h0)]; rfl
              clear hSt
              subst hS
              have o0 := (blk_cell hO8.out 0).trans rfl
              have f4 : wx.frozen? ⟨q, j * 5 + 4, none⟩ = false := c6 4
              clear hap hst hlaw
              go_wp2_with fail
              go_meet
              exact ⟨rfl, rfl, rfl, Aside0.mk (hT8.out.putN (tabN_cord hT8.out.1.2.2 hj true))⟩
          · obtain ⟨c0, c1, c2, c3, c4, c6⟩ := cn
            by_cases h0 : vN.f0 = ByteArray.empty
            · have e0 := emp_yes h0
              have hS : S = (122, mw, mn, ws.length, ns.length) := by rw [← hSt]; unfold stepM; rw [if_neg (by decide), if_neg (by decide), if_neg (by decide), if_neg (by decide), if_neg (by decide), if_neg (by decide), if_pos (show (mn.getD j zN).f0 = ByteArray.empty from by rw [← hvN.out]; exact h0)]
              clear hSt
              subst hS
              clear hap hst hlaw
              go_wp2_with fail
              go_meet
              exact ⟨rfl, rfl, rfl, hT8⟩
            · have e0 := emp_no h0
              have hS : S = (0, mw, mn.set j { mn.getD j zN with f4 := false }, ws.length, ns.length) := by rw [← hSt]; unfold stepM; rw [if_neg (by decide), if_neg (by decide), if_neg (by decide), if_neg (by decide), if_neg (by decide), if_neg (by decide), if_neg (show ¬ (mn.getD j zN).f0 = ByteArray.empty from by rw [← hvN.out]; exact h0)]; rfl
              clear hSt
              subst hS
              have o0 := (blk_cell hO8.out 0).trans rfl
              have f4 : wx.frozen? ⟨q, j * 5 + 4, none⟩ = false := c6 4
              clear hap hst hlaw
              go_wp2_with fail
              go_meet
              exact ⟨rfl, rfl, rfl, Aside0.mk (hT8.out.putN (tabN_cord hT8.out.1.2.2 hj false))⟩
          · have hS : S = (0, mw, mn, ws.length, ns.length) := by rw [← hSt]; unfold stepM; rw [if_neg (by decide), if_neg (by decide), if_pos rfl]
            clear hSt
            subst hS
            clear hap hst hlaw
            go_wp2_with fail
            go_meet
            exact ⟨rfl, rfl, rfl, hT8⟩
        case rest =>
          clear hM hT8 hO8 hop hap hraw
          obtain ⟨rfl, rfl, rfl, hT⟩ := hcut
          obtain ⟨l1, l2, l3⟩ := hlaw.out
          rw [l1]
          have bq : (R.2.2.2 != R.2.2.2) = false := by simp
          have gt := sOf2 hT.out
          obtain ⟨g0, g1, g2, t0, t1, t2, y0, y1, y2⟩ := gt
          by_cases h0 : R.2.2.2 = 0
          · obtain ⟨q1, q2, q3, q4, q5⟩ := l2 h0
            have hr := hst.out.1 h0
            have b0 : (R.2.2.2 == 0) = true := beq_iff_eq.mpr h0
            clear l1 l2 l3 h0 hst hlaw
            rw [q3, q4]
            go_wp2_with fail
            go_roundg m
            case measure => omega
            case rel => exact ⟨i + 1, R.1, A2, B2, _, _, R.2.1, R.2.2.1, _, _, rfl, rfl, by first | rfl | (simp; done), by omega, by omega, hr, Nat.le_refl _, Nat.le_refl _, hsm2, q1, q2, Aside0.mk ⟨⟨(put3 _ _ _ hT.out.1.1.1).1, rowW_set hT.out.2.2.1 hT.out.1.1.1 _ _ _, rowN_set hT.out.2.2.2.1 hT.out.1.1.1 _ _ _, ((hT.out.2.2.2.2.setCell (p := ⟨g, 0, none⟩) hge'.out _).setCell (p := ⟨g, 1, none⟩) hge'.out _).setCell (p := ⟨g, 2, none⟩) hge'.out _⟩, R_put3 hT.out.1.2.1 hT.out.1.1.1 (fun z hz => by rw [List.mem_singleton.1 hz]; decide) _ _ _, R_put3 hT.out.1.2.2 hT.out.1.1.1 (fun z hz => by rw [List.mem_singleton.1 hz]; decide) _ _ _⟩⟩
          · have l3 := l3 h0
            have b0 : (R.2.2.2 == 0) = false := beq_eq_false_iff_ne.mpr h0
            clear l1 l2 h0 hst hlaw
            rw [l3]
            rw [l3] at hT
            go_wp2_with fail
            go_roundg m
            case measure => omega
            case rel => exact ⟨i + 1, e, A, B, c, d, ws, ns, mw, mn, rfl, rfl, by first | rfl | (simp; done), by omega, by omega, hrs, hlc, hld, hsm, hJW, hJN, Aside0.mk hT.out.1⟩
      · by_cases hl2 : i < l.length
        · have d1 : decide ((i : Int) < (l.length : Int)) = true := by simp; exact hl2
          have d2 : decide ((i : Int) < 60) = false := by simp; omega
          go_wp2_with fail
          go_meet
          exact ⟨e, A, B, c, d, ws, ns, mw, mn, rfl, rfl, hrs, hlc, hld, hJW, hJN, hM⟩
        · have d1 : decide ((i : Int) < (l.length : Int)) = false := by simp; omega
          go_wp2_with fail
          go_meet
          exact ⟨e, A, B, c, d, ws, ns, mw, mn, rfl, rfl, hrs, hlc, hld, hJW, hJN, hM⟩
  case rest =>
    clear hM
    obtain ⟨e, A, B, c, d, ws, ns, mw, mn, rfl, rfl, hrs, hlc, hld, hJW, hJN, hM⟩ := hcut
    obtain ⟨g0, g1, g2⟩ := Aw.sF hM.out.1
    have bw : ((ws.length : Int) != (ws.length : Int)) = false := by simp
    have bn : ((ns.length : Int) != (ns.length : Int)) = false := by simp
    go_wp2_with fail
    clear g0 g1 g2 bw bn
    go_loopg [15, 16, 17] 9 (fun kq v15 v16 v17 w' => ∃ k : Nat, v15 = .int .i64 (upto (f := fw) mw k : Int) ∧ v16 = .int .i64 (upto (f := fn) mn k : Int) ∧ v17 = .int .i64 (k : Int) ∧ k + kq = 9 ∧ Aside0 (Mb w w' g p q e A B c d ws ns mw mn))
    case atStart => exact ⟨0, rfl, rfl, rfl, rfl, hM⟩
    case round =>
      clear hM
      obtain ⟨k, rfl, rfl, rfl, hk9, hM⟩ := hrel
      have hlens := Lib.hid (And.intro (Kd.R_reads' hM.out.2.1).1.symm (Kd.R_reads' hM.out.2.2).1.symm)
      by_cases hk : k < 9
      · obtain ⟨m, rfl⟩ : ∃ m, gk = m + 1 := ⟨gk - 1, by omega⟩
        have d1 : decide ((k : Int) < 9) = true := by simp; omega
        have pk0 : (0 ≤ (k : Int)) = True := eq_true (by omega)
        have qk : ((k : Int) < 9) = True := eq_true (by omega)
        have cw := tabW_at hM.out.2.1 hk
        obtain ⟨v, hv⟩ : ∃ v, v = mw.getD k zW := ⟨_, rfl⟩
        rw [← hv] at cw
        replace hv := Lib.hid hv
        obtain ⟨c0, c1, c2, c3, c4, c5, c9⟩ := cw
        go_upto_if 148 with fail
        go_cut [15] (fun s15 wx => s15 = .int .i64 (upto (f := fw) mw (k + 1) : Int) ∧ Aside0 (Mb w wx g p q e A B c d ws ns mw mn))
        case first =>
          by_cases h0 : v.f0 = ByteArray.empty
          · have e0 : (!v.f0.toList.isEmpty) = false := by rw [emp_yes h0]; rfl
            have u1 := upto_no (f := fw) (z := zW) (m := mw) (k := k) (by rw [hlens.out.1]; exact hk) (by rw [← hv.out]; exact h0)
            rw [e0]
            go_wp2_with fail
            go_meet
            exact ⟨by rw [u1], hM⟩
          · have e0 : (!v.f0.toList.isEmpty) = true := by rw [emp_no h0]; rfl
            rw [e0]
            obtain ⟨u1, u2, u3⟩ := upto_yes (f := fw) (z := zW) (m := mw) (k := k) (by rw [hlens.out.1]; exact hk) (by rw [← hv.out]; exact h0)
            rw [← hJW.eq (rightS_iff.1 hrs).2.2.2.1.1] at u2 u3
            replace u1 := Lib.hid u1
            rw [← hv.out] at u2
            generalize upto (f := fw) mw k = a at *
            obtain ⟨ad, eA, r0, r1, r2, r3, r4, r5⟩ := at_T32 (rowW_C hM.out.1.2.1) (a : Int) (by omega) (by omega)
            subst eA
            rw [rdW, Int.toNat_natCast, List.getD_eq_getElem?_getD, u2, Option.getD_some] at r0
            rw [rdW, Int.toNat_natCast, List.getD_eq_getElem?_getD, u2, Option.getD_some] at r1
            rw [rdW, Int.toNat_natCast, List.getD_eq_getElem?_getD, u2, Option.getD_some] at r2
            rw [rdW, Int.toNat_natCast, List.getD_eq_getElem?_getD, u2, Option.getD_some] at r3
            rw [rdW, Int.toNat_natCast, List.getD_eq_getElem?_getD, u2, Option.getD_some] at r4
            rw [rdW, Int.toNat_natCast, List.getD_eq_getElem?_getD, u2, Option.getD_some] at r5
            have pa : (0 ≤ (a : Int)) = True := eq_true (by omega)
            have qa : ((a : Int) < (ws.length : Int)) = True := eq_true (by omega)
            clear u2
            have hw8 := (rightS_iff.1 hrs).2.1
            have hn8 := (rightS_iff.1 hrs).2.2.1
            have g1 : wr.cell? ⟨g, 1, none⟩ = some (.slice (some ad) ws.length c) := (Aw.sF hM.out.1).2.1
            go_wp2_with fail
            have hF := hM
            refine start_ (n := 9) (S := fun w' => w'.cell? ⟨g, 1, none⟩ = some (.slice (some ad) ws.length c) ∧ w'.cell? (ad.add (a * 6)) = some (.string v.f0) ∧ w'.cell? ⟨(ad.add (a * 6)).block, (ad.add (a * 6)).off + 1, none⟩ = some (.int .i64 v.f1) ∧ w'.cell? ⟨(ad.add (a * 6)).block, (ad.add (a * 6)).off + 2, none⟩ = some (.int .i64 v.f2) ∧ w'.cell? ⟨(ad.add (a * 6)).block, (ad.add (a * 6)).off + 3, none⟩ = some (.int .i64 v.f3) ∧ w'.cell? ⟨(ad.add (a * 6)).block, (ad.add (a * 6)).off + 4, none⟩ = some (.int .i64 v.f4) ∧ w'.cell? ⟨(ad.add (a * 6)).block, (ad.add (a * 6)).off + 5, none⟩ = some (.string v.f5) ∧ w'.cell? ⟨p, k * 6, none⟩ = some (.string v.f0) ∧ w'.cell? ⟨p, k * 6 + 1, none⟩ = some (.int .i64 v.f1) ∧ w'.cell? ⟨p, k * 6 + 2, none⟩ = some (.int .i64 v.f2) ∧ w'.cell? ⟨p, k * 6 + 3, none⟩ = some (.int .i64 v.f3) ∧ w'.cell? ⟨p, k * 6 + 4, none⟩ = some (.int .i64 v.f4) ∧ w'.cell? ⟨p, k * 6 + 5, none⟩ = some (.string v.f5)) (ds := []) #[false, false, false, false, false, false, false, false, false] (by kernel_rfl) rfl (by kernel_rfl) (⟨g1, r0, r1, r2, r3, r4, r5, c0, c1, c2, c3, c4, c5⟩) (fun hHeld => ?_)
            replace hF := Aside0.mk (hF.out.below (below_drew (Below.refl _ _)))
            generalize wr.drew = wd at *
            refine pure_ (i := 0) (N := some 149) (v := ?_) (a' := ?_) #[true, false, false, false, false, false, false, false, false] rfl rfl (by kernel_rfl) (fun _ _ _ h => h) (Or.inl ⟨by rfl, ?_⟩) ?_ ?_; rotate_left; (·intro w'; go_simp; with_reducible rfl); rotate_left; (·simp only [Act.put, List.setIfInBounds_toArray, List.set_cons_zero, List.set_cons_succ, i64_w, i32_w, Nat.reduceAdd]; rfl)
            refine take_ (i := 1) (N := some 150) (v := ?_) (a' := ?_) #[true, true, false, false, false, false, false, false, false] rfl rfl (by kernel_rfl) (fun _ _ _ h => h) (Or.inl ⟨by rfl, ?_⟩) hHeld ?_ ?_; rotate_left; (·rintro w' ⟨s0_, s1_, s2_, s3_, s4_, s5_, s6_, s7_, s8_, s9_, s10_, s11_, s12_⟩; go_simp; with_reducible rfl); rotate_left; (·simp only [Act.put, List.setIfInBounds_toArray, List.set_cons_zero, List.set_cons_succ, i64_w, i32_w, Nat.reduceAdd]; rfl)
            refine pure_ (i := 2) (N := some 151) (v := ?_) (a' := ?_) #[true, true, true, false, false, false, false, false, false] rfl rfl (by kernel_rfl) (fun _ _ _ h => h) (Or.inl ⟨by rfl, ?_⟩) ?_ ?_; rotate_left; (·intro w'; go_simp; with_reducible rfl); rotate_left; (·simp only [Act.put, List.setIfInBounds_toArray, List.set_cons_zero, List.set_cons_succ, i64_w, i32_w, Nat.reduceAdd]; rfl)
            refine pure_ (i := 3) (N := some 152) (v := ?_) (a' := ?_) #[true, true, true, true, false, false, false, false, false] rfl rfl (by kernel_rfl) (fun _ _ _ h => h) (Or.inl ⟨by rfl, ?_⟩) ?_ ?_; rotate_left; (·intro w'; go_simp; with_reducible rfl); rotate_left; (·simp only [Act.put, List.setIfInBounds_toArray, List.set_cons_zero, List.set_cons_succ, i64_w, i32_w, Nat.reduceAdd]; rfl)
            refine take_ (i := 4) (N := some 153) (v := ?_) (a' := ?_) #[true, true, true, true, true, false, false, false, false] rfl rfl (by kernel_rfl) (fun _ _ _ h => h) (Or.inl ⟨by rfl, ?_⟩) hHeld ?_ ?_; rotate_left; (·rintro w' ⟨s0_, s1_, s2_, s3_, s4_, s5_, s6_, s7_, s8_, s9_, s10_, s11_, s12_⟩; go_simp; with_reducible rfl); rotate_left; (·simp only [Act.put, List.setIfInBounds_toArray, List.set_cons_zero, List.set_cons_succ, i64_w, i32_w, Nat.reduceAdd]; rfl)
            refine pure_ (i := 5) (N := some 154) (v := ?_) (a' := ?_) #[true, true, true, true, true, true, false, false, false] rfl rfl (by kernel_rfl) (fun _ _ _ h => h) (Or.inl ⟨by rfl, ?_⟩) ?_ ?_; rotate_left; (·intro w'; go_simp; with_reducible rfl); rotate_left; (·simp only [Act.put, List.setIfInBounds_toArray, List.set_cons_zero, List.set_cons_succ, i64_w, i32_w, Nat.reduceAdd]; rfl)
            refine pure_ (i := 6) (N := some 155) (v := ?_) (a' := ?_) #[true, true, true, true, true, true, true, false, false] rfl rfl (by kernel_rfl) (fun _ _ _ h => h) (Or.inl ⟨by rfl, ?_⟩) ?_ ?_; rotate_left; (·intro w'; go_simp; with_reducible rfl); rotate_left; (·simp only [Act.put, List.setIfInBounds_toArray, List.set_cons_zero, List.set_cons_succ, i64_w, i32_w, Nat.reduceAdd]; rfl)
            refine take_ (i := 7) (N := some 156) (v := ?_) (a' := ?_) #[true, true, true, true, true, true, true, true, false] rfl rfl (by kernel_rfl) (fun _ _ _ h => h) (Or.inl ⟨by rfl, ?_⟩) hHeld ?_ ?_; rotate_left; (·rintro w' ⟨s0_, s1_, s2_, s3_, s4_, s5_, s6_, s7_, s8_, s9_, s10_, s11_, s12_⟩; go_simp; with_reducible rfl); rotate_left; (·simp only [Act.put, List.setIfInBounds_toArray, List.set_cons_zero, List.set_cons_succ, i64_w, i32_w, Nat.reduceAdd]; rfl)
            refine pure_ (i := 8) (N := some 157) (v := ?_) (a' := ?_) #[true, true, true, true, true, true, true, true, true] rfl rfl (by kernel_rfl) (fun _ _ _ h => h) (Or.inl ⟨by rfl, ?_⟩) ?_ ?_; rotate_left; (·intro w'; go_simp; with_reducible rfl); rotate_left; (·simp only [Act.put, List.setIfInBounds_toArray, List.set_cons_zero, List.set_cons_succ, i64_w, i32_w, Nat.reduceAdd]; rfl)
            refine done_ (by kernel_rfl) ?_
            go_wp2_with fail
            go_meet
            exact ⟨by rw [u1.out]; exact congrArg (Value.int .i64) (by (try simp only [IntKind.wrap_i64]); (try unfold wrap64); omega), hF⟩
        case rest =>
          clear c0 c1 c2 c3 c4 c5 c9 hv v hM
          obtain ⟨rfl, hM⟩ := hcut
          have cw := tabN_at hM.out.2.2 hk
          obtain ⟨v, hv⟩ : ∃ v, v = mn.getD k zN := ⟨_, rfl⟩
          rw [← hv] at cw
          replace hv := Lib.hid hv
          obtain ⟨c0, c1, c2, c3, c4, c9⟩ := cw
          by_cases h0 : v.f0 = ByteArray.empty
          · have e0 : (!v.f0.toList.isEmpty) = false := by rw [emp_yes h0]; rfl
            have u1 := upto_no (f := fn) (z := zN) (m := mn) (k := k) (by rw [hlens.out.2]; exact hk) (by rw [← hv.out]; exact h0)
            have e1 : v.f0.toList.isEmpty = true := emp_yes h0
            go_wp2_with fail
            go_roundg m
            case measure => omega
            case rel => exact ⟨k + 1, rfl, by rw [u1], by first | rfl | (simp; done), by omega, hM⟩
          · have e0 : (!v.f0.toList.isEmpty) = true := by rw [emp_no h0]; rfl
            have e1 : v.f0.toList.isEmpty = false := emp_no h0
            obtain ⟨u1, u2, u3⟩ := upto_yes (f := fn) (z := zN) (m := mn) (k := k) (by rw [hlens.out.2]; exact hk) (by rw [← hv.out]; exact h0)
            rw [← hJN.eq (rightS_iff.1 hrs).2.2.2.2.1] at u2 u3
            replace u1 := Lib.hid u1
            rw [← hv.out] at u2
            generalize upto (f := fn) mn k = a at *
            obtain ⟨ad, eA, r0, r1, r2, r3, r4⟩ := at_T34 (rowN_C hM.out.1.2.2.1) (a : Int) (by omega) (by omega)
            subst eA
            rw [rdN, Int.toNat_natCast, List.getD_eq_getElem?_getD, u2, Option.getD_some] at r0
            rw [rdN, Int.toNat_natCast, List.getD_eq_getElem?_getD, u2, Option.getD_some] at r1
            rw [rdN, Int.toNat_natCast, List.getD_eq_getElem?_getD, u2, Option.getD_some] at r2
            rw [rdN, Int.toNat_natCast, List.getD_eq_getElem?_getD, u2, Option.getD_some] at r3
            rw [rdN, Int.toNat_natCast, List.getD_eq_getElem?_getD, u2, Option.getD_some] at r4
            have pa : (0 ≤ (a : Int)) = True := eq_true (by omega)
            have qa : ((a : Int) < (ns.length : Int)) = True := eq_true (by omega)
            clear u2
            have hw8 := (rightS_iff.1 hrs).2.1
            have hn8 := (rightS_iff.1 hrs).2.2.1
            have g1 : wc.cell? ⟨g, 2, none⟩ = some (.slice (some ad) ns.length d) := (Aw.sF hM.out.1).2.2
            go_wp2_with fail
            have hF := hM
            refine start_ (n := 9) (S := fun w' => w'.cell? ⟨g, 2, none⟩ = some (.slice (some ad) ns.length d) ∧ w'.cell? (ad.add (a * 5)) = some (.string v.f0) ∧ w'.cell? ⟨(ad.add (a * 5)).block, (ad.add (a * 5)).off + 1, none⟩ = some (.int .i64 v.f1) ∧ w'.cell? ⟨(ad.add (a * 5)).block, (ad.add (a * 5)).off + 2, none⟩ = some (.int .i64 v.f2) ∧ w'.cell? ⟨(ad.add (a * 5)).block, (ad.add (a * 5)).off + 3, none⟩ = some (.string v.f3) ∧ w'.cell? ⟨(ad.add (a * 5)).block, (ad.add (a * 5)).off + 4, none⟩ = some (.bool v.f4) ∧ w'.cell? ⟨q, k * 5, none⟩ = some (.string v.f0) ∧ w'.cell? ⟨q, k * 5 + 1, none⟩ = some (.int .i64 v.f1) ∧ w'.cell? ⟨q, k * 5 + 2, none⟩ = some (.int .i64 v.f2) ∧ w'.cell? ⟨q, k * 5 + 3, none⟩ = some (.string v.f3) ∧ w'.cell? ⟨q, k * 5 + 4, none⟩ = some (.bool v.f4)) (ds := []) #[false, false, false, false, false, false, false, false, false] (by kernel_rfl) rfl (by kernel_rfl) (⟨g1, r0, r1, r2, r3, r4, c0, c1, c2, c3, c4⟩) (fun hHeld => ?_)
            replace hF := Aside0.mk (hF.out.below (below_drew (Below.refl _ _)))
            generalize wc.drew = wd at *
            refine pure_ (i := 0) (N := some 165) (v := ?_) (a' := ?_) #[true, false, false, false, false, false, false, false, false] rfl rfl (by kernel_rfl) (fun _ _ _ h => h) (Or.inl ⟨by rfl, ?_⟩) ?_ ?_; rotate_left; (·intro w'; go_simp; with_reducible rfl); rotate_left; (·simp only [Act.put, List.setIfInBounds_toArray, List.set_cons_zero, List.set_cons_succ, i64_w, i32_w, Nat.reduceAdd]; rfl)
            refine take_ (i := 1) (N := some 166) (v := ?_) (a' := ?_) #[true, true, false, false, false, false, false, false, false] rfl rfl (by kernel_rfl) (fun _ _ _ h => h) (Or.inl ⟨by rfl, ?_⟩) hHeld ?_ ?_; rotate_left; (·rintro w' ⟨s0_, s1_, s2_, s3_, s4_, s5_, s6_, s7_, s8_, s9_, s10_⟩; go_simp; with_reducible rfl); rotate_left; (·simp only [Act.put, List.setIfInBounds_toArray, List.set_cons_zero, List.set_cons_succ, i64_w, i32_w, Nat.reduceAdd]; rfl)
            refine pure_ (i := 2) (N := some 167) (v := ?_) (a' := ?_) #[true, true, true, false, false, false, false, false, false] rfl rfl (by kernel_rfl) (fun _ _ _ h => h) (Or.inl ⟨by rfl, ?_⟩) ?_ ?_; rotate_left; (·intro w'; go_simp; with_reducible rfl); rotate_left; (·simp only [Act.put, List.setIfInBounds_toArray, List.set_cons_zero, List.set_cons_succ, i64_w, i32_w, Nat.reduceAdd]; rfl)
            refine pure_ (i := 3) (N := some 168) (v := ?_) (a' := ?_) #[true, true, true, true, false, false, false, false, false] rfl rfl (by kernel_rfl) (fun _ _ _ h => h) (Or.inl ⟨by rfl, ?_⟩) ?_ ?_; rotate_left; (·intro w'; go_simp; with_reducible rfl); rotate_left; (·simp only [Act.put, List.setIfInBounds_toArray, List.set_cons_zero, List.set_cons_succ, i64_w, i32_w, Nat.reduceAdd]; rfl)
            refine take_ (i := 4) (N := some 169) (v := ?_) (a' := ?_) #[true, true, true, true, true, false, false, false, false] rfl rfl (by kernel_rfl) (fun _ _ _ h => h) (Or.inl ⟨by rfl, ?_⟩) hHeld ?_ ?_; rotate_left; (·rintro w' ⟨s0_, s1_, s2_, s3_, s4_, s5_, s6_, s7_, s8_, s9_, s10_⟩; go_simp; with_reducible rfl); rotate_left; (·simp only [Act.put, List.setIfInBounds_toArray, List.set_cons_zero, List.set_cons_succ, i64_w, i32_w, Nat.reduceAdd]; rfl)
            refine pure_ (i := 5) (N := some 170) (v := ?_) (a' := ?_) #[true, true, true, true, true, true, false, false, false] rfl rfl (by kernel_rfl) (fun _ _ _ h => h) (Or.inl ⟨by rfl, ?_⟩) ?_ ?_; rotate_left; (·intro w'; go_simp; with_reducible rfl); rotate_left; (·simp only [Act.put, List.setIfInBounds_toArray, List.set_cons_zero, List.set_cons_succ, i64_w, i32_w, Nat.reduceAdd]; rfl)
            refine pure_ (i := 6) (N := some 171) (v := ?_) (a' := ?_) #[true, true, true, true, true, true, true, false, false] rfl rfl (by kernel_rfl) (fun _ _ _ h => h) (Or.inl ⟨by rfl, ?_⟩) ?_ ?_; rotate_left; (·intro w'; go_simp; with_reducible rfl); rotate_left; (·simp only [Act.put, List.setIfInBounds_toArray, List.set_cons_zero, List.set_cons_succ, i64_w, i32_w, Nat.reduceAdd]; rfl)
            refine take_ (i := 7) (N := some 172) (v := ?_) (a' := ?_) #[true, true, true, true, true, true, true, true, false] rfl rfl (by kernel_rfl) (fun _ _ _ h => h) (Or.inl ⟨by rfl, ?_⟩) hHeld ?_ ?_; rotate_left; (·rintro w' ⟨s0_, s1_, s2_, s3_, s4_, s5_, s6_, s7_, s8_, s9_, s10_⟩; go_simp; with_reducible rfl); rotate_left; (·simp only [Act.put, List.setIfInBounds_toArray, List.set_cons_zero, List.set_cons_succ, i64_w, i32_w, Nat.reduceAdd]; rfl)
            refine pure_ (i := 8) (N := some 173) (v := ?_) (a' := ?_) #[true, true, true, true, true, true, true, true, true] rfl rfl (by kernel_rfl) (fun _ _ _ h => h) (Or.inl ⟨by rfl, ?_⟩) ?_ ?_; rotate_left; (·intro w'; go_simp; with_reducible rfl); rotate_left; (·simp only [Act.put, List.setIfInBounds_toArray, List.set_cons_zero, List.set_cons_succ, i64_w, i32_w, Nat.reduceAdd]; rfl)
            refine done_ (by kernel_rfl) ?_
            go_wp2_with fail
            go_roundg m
            case measure => omega
            case rel => exact ⟨k + 1, rfl, by rw [u1.out]; exact congrArg (Value.int .i64) (by (try simp only [IntKind.wrap_i64]); (try unfold wrap64); omega), by first | rfl | (simp; done), by omega, hF⟩
      · have d1 : decide ((k : Int) < 9) = false := by simp; omega
        go_wp2_with fail
        go_ret
        exact ⟨rfl, hM.out.1.2.2.2⟩
end Go.Proofs.YtldlkbjbfgieeaaGreatDoor.Im
