/- place.Right, intent.Right, intent.rightOp: what they compute. -/
/- thin -/
import Derived.Test.YtldlkbjbfgieeaaGreatDoorLl
import Derived.Test.YtldlkbjbfgieeaaGreatDoorRe
import Derived.Test.YtldlkbjbfgieeaaGreatDoorInW
import Derived.Test.YtldlkbjbfgieeaaGreatDoorCb
import Derived.Test.YtldlkbjbfgieeaaGreatDoorMo
import Derived.Lib.Hide
namespace Go.Proofs.YtldlkbjbfgieeaaGreatDoor.Ri
set_option linter.unusedVariables false
set_option linter.unusedSimpArgs false
open Go.RowKit Go.Proofs.YtldlkbjbfgieeaaGreatDoorW.PrintWords Go.Proofs.YtldlkbjbfgieeaaGreatDoorW.PrintLast Mo Q Go.Proofs.YtldlkbjbfgieeaaGreatDoor.Nm Gn Ll Lb Cb
attribute [local go_sem high] Go.Proofs.YtldlkbjbfgieeaaGreatDoor.Sl.gtr_less Go.Proofs.YtldlkbjbfgieeaaGreatDoor.Sl.leq_less
abbrev W := S32
abbrev N := S34
theorem wrapS (i : Nat) (h : i < 9223372036854775807) : wrap64 ((i : Int) + 1) = ((i + 1 : Nat) : Int) := by unfold wrap64; omega
/-! ### labels -/
/-- one after the other: keys and values that are names, keys rising -/
def labsGo : List ByteArray → ByteArray → Bool
 | [], _ => true
 | p :: l, last => (cutS p).2.2 && nm (cutS p).1 && nm (cutS p).2.1 && lt last (cutS p).1 && labsGo l (cutS p).1
def labS (s : ByteArray) : Bool := labsGo (partsS s) ByteArray.empty && decide ((partsS s).length ≤ 4)
theorem drop_rd (l : List ByteArray) (i : Nat) (h : i < l.length) : l.drop i = rdOf ByteArray.empty l (i : Int) :: l.drop (i + 1) := by
 rw [List.drop_eq_getElem_cons h]
 unfold rdOf
 rw [Int.toNat_natCast, List.getD_eq_getElem?_getD, List.getElem?_eq_getElem h]; rfl
theorem labs_l (L : List ByteArray) (hL : L.length < 9223372036854775807) (hp : ∀ p ∈ L, p.size < 4294967281) : ∀ (d i k : Nat) (last : ByteArray), i + d = L.length → d + 1 ≤ k → label_IsLabels.l0 k L last L (L.length : Int) (i : Int) = some (labsGo (L.drop i) last && decide (L.length ≤ 4))
 | 0, i, k, last, h1, h2 => by
   obtain ⟨k, rfl⟩ : ∃ m, k = m + 1 := ⟨k - 1, by omega⟩
   unfold label_IsLabels.l0
   rw [if_neg (by omega), List.drop_eq_nil_of_le (by omega)]
   have : decide ((L.length : Int) ≤ 4) = decide (L.length ≤ 4) := by rw [Bool.eq_iff_iff]; simp; omega
   rw [this]; simp [labsGo]
 | d + 1, i, k, last, h1, h2 => by
   obtain ⟨k, rfl⟩ : ∃ m, k = m + 1 := ⟨k - 1, by omega⟩
   have hi : i < L.length := by omega
   have ih := labs_l L hL hp d (i + 1) k
   have hd := drop_rd L i hi
   have hm : rdOf ByteArray.empty L (i : Int) ∈ L := by
    have : rdOf ByteArray.empty L (i : Int) ∈ L.drop i := by rw [hd]; exact List.mem_cons_self
    exact List.mem_of_mem_drop this
   have hsz := hp _ hm
   unfold label_IsLabels.l0
   rw [if_pos (by omega), if_pos (by omega), if_pos (by omega), wrapS i (by omega), hd]
   generalize rdOf ByteArray.empty L (i : Int) = p at *
   have hc : strings_Cut.f p (⟨#[61]⟩ : ByteArray) = some (cutS p) := if_pos ⟨by decide +kernel, hsz⟩
   rw [hc, Option.bind_some]
   unfold labsGo
   cases h1 : (cutS p).2.2 with
   | false => rw [if_neg (by decide)]; simp
   | true =>
    rw [if_pos rfl, show label_IsName.f (cutS p).1 = some (nm (cutS p).1) from rfl, Option.bind_some]
    cases h2 : nm (cutS p).1 with
    | false => rw [if_neg (by decide)]; simp
    | true =>
     rw [if_pos rfl, show label_IsName.f (cutS p).2.1 = some (nm (cutS p).2.1) from rfl, Option.bind_some]
     cases h3 : nm (cutS p).2.1 with
     | false => rw [if_neg (by decide)]; simp
     | true =>
      rw [if_pos rfl]
      cases h4 : lt last (cutS p).1 with
      | false => rw [if_neg (by rw [show Op.bytesLess last.toList (cutS p).1.toList = false from h4]; decide)]; simp
      | true => rw [if_pos (show Op.bytesLess last.toList (cutS p).1.toList = true from h4), ih _ (by omega) (by omega)]; simp
theorem labels_eq (s : ByteArray) (hs : s.size < 4294967281) : ∃ K, ∀ k, K ≤ k → label_IsLabels.f k s = some (labS s) := by
 have hp : ∀ p ∈ partsS s, p.size < 4294967281 := fun p hp => by have := parts_size hp; omega
 have hl := parts_len s
 refine ⟨(partsS s).length + 1, fun k hk => ?_⟩
 unfold label_IsLabels.f
 rw [show label_parts.f s = some (partsS s) from if_pos hs, Option.bind_some]
 have := labs_l (partsS s) (by omega) hp (partsS s).length 0 k ByteArray.empty (by omega) hk
 rw [List.drop_zero] at this
 exact this
/-! ### workloads, nodes, problems -/
def inB (n low high : Int) : Bool := decide (low ≤ n) && decide (n ≤ high)
def rightW (x : W) : Bool := nm x.f0 && selS x.f5 && inB x.f1 0 16 && inB x.f2 0 9 && inB x.f3 1 16 && inB x.f4 1 16
def rightN (y : N) : Bool := nm y.f0 && labS y.f3 && inB y.f1 0 2 && inB y.f2 0 4
def goW : List W → ByteArray → Bool
 | [], _ => true
 | x :: l, last => rightW x && lt last x.f0 && goW l x.f0
def goN : List N → ByteArray → Bool
 | [], _ => true
 | y :: l, last => rightN y && lt last y.f0 && goN l y.f0
def rightP (ws : List W) (ns : List N) : Bool := decide (ws.length ≤ 8) && decide (ns.length ≤ 8) && goW ws ByteArray.empty && goN ns ByteArray.empty
/-- texts are not of great size -/
def Small (ws : List W) (ns : List N) : Prop := (∀ x ∈ ws, x.f5.size < 4294967281) ∧ ∀ y ∈ ns, y.f3.size < 4294967281
def rightS (e : Int) (ws : List W) (ns : List N) : Bool := decide (0 ≤ e) && decide (e ≤ 1099511627776) && rightP ws ns
def rightO (k : Int) (x : W) (y : N) (id : ByteArray) (want : Int) : Bool :=
 if k = 1 then rightP [x] [] else if k = 4 then rightP [] [y] else if k = 2 then nm id && inB want 0 16 else if k = 3 then nm id else if k = 5 then nm id else if k = 6 then nm id else if k = 7 then nm id else decide (k = 8)
theorem within_any (n low high : Int) (w : World) : Calls Tryz.prog 102 #[.int .i64 n, .int .i64 low, .int .i64 high] w fun e w' => e = .returned (.bool (inB n low high)) ∧ w = w' := by
 unfold inB
 by_cases h : low ≤ n
 ·have d1 : decide (low ≤ n) = true := decide_eq_true h
  rw [d1]
  clear h
  go_enter Tryz.func102, Tryz.ntmps102
  go_wp2_with fail
  go_ret
  exact ⟨by simp, rfl⟩
 ·have d1 : decide (low ≤ n) = false := decide_eq_false h
  rw [d1]
  clear h
  go_enter Tryz.func102, Tryz.ntmps102
  go_wp2_with fail
  go_ret
  exact ⟨by simp, rfl⟩
theorem pW_any (x : W) (w : World) (hx : x.f5.size < 4294967281) : Calls Tryz.prog 81 #[.agg #[.string x.f0, .int .i64 x.f1, .int .i64 x.f2, .int .i64 x.f3, .int .i64 x.f4, .string x.f5]] w fun e w' => e = .returned (.bool (rightW x)) ∧ Below w.heap.size w w' := by
 have hB := below_alloc (Below.refl w.heap.size w) (.cells #[.string x.f0, .int .i64 x.f1, .int .i64 x.f2, .int .i64 x.f3, .int .i64 x.f4, .string x.f5] 32)
 have hO := blk_new w (.cells #[.string x.f0, .int .i64 x.f1, .int .i64 x.f2, .int .i64 x.f3, .int .i64 x.f4, .string x.f5] 32)
 obtain ⟨r, hr⟩ : ∃ r, r = rightW x := ⟨_, rfl⟩
 rw [← hr]
 unfold rightW at hr
 replace hr := Lib.hid hr
 have b0 := (blk_cell hO 0).trans rfl
 go_enter Tryz.func81, Tryz.ntmps81
 go_wp2_with fail
 refine (label_IsName.calls x.f0 _ _ rfl).mono ?_
 rintro e' w0 ⟨rfl, hb⟩
 replace hO := blk_below hO hb
 replace hB := below_then hB hB.size hb
 clear hb
 have c0 := (blk_cell hO 5).trans rfl
 cases h0 : nm x.f0 with
 | false =>
  go_wp2_with fail
  go_ret
  exact ⟨by rw [hr.out, h0]; simp, hB⟩
 | true =>
  go_wp2_with fail
  refine (label_IsSelector.calls x.f5 _ _ (if_pos hx)).mono ?_
  rintro e' w1 ⟨rfl, hb⟩
  replace hO := blk_below hO hb
  replace hB := below_then hB hB.size hb
  clear hb
  have c1 := (blk_cell hO 1).trans rfl
  cases h1 : selS x.f5 with
  | false =>
   go_wp2_with fail
   go_ret
   exact ⟨by rw [hr.out, h0, h1]; simp, hB⟩
  | true =>
   go_wp2_with fail
   refine (within_any x.f1 0 16 _).mono ?_
   rintro e' _ ⟨rfl, rfl⟩
   have c2 := (blk_cell hO 2).trans rfl
   cases h2 : inB x.f1 0 16 with
   | false =>
    go_wp2_with fail
    go_ret
    exact ⟨by rw [hr.out, h0, h1, h2]; simp, hB⟩
   | true =>
    go_wp2_with fail
    refine (within_any x.f2 0 9 _).mono ?_
    rintro e' _ ⟨rfl, rfl⟩
    have c3 := (blk_cell hO 3).trans rfl
    cases h3 : inB x.f2 0 9 with
    | false =>
     go_wp2_with fail
     go_ret
     exact ⟨by rw [hr.out, h0, h1, h2, h3]; simp, hB⟩
    | true =>
     go_wp2_with fail
     refine (within_any x.f3 1 16 _).mono ?_
     rintro e' _ ⟨rfl, rfl⟩
     have c4 := (blk_cell hO 4).trans rfl
     cases h4 : inB x.f3 1 16 with
     | false =>
      go_wp2_with fail
      go_ret
      exact ⟨by rw [hr.out, h0, h1, h2, h3, h4]; simp, hB⟩
     | true =>
      go_wp2_with fail
      refine (within_any x.f4 1 16 _).mono ?_
      rintro e' _ ⟨rfl, rfl⟩
      cases h5 : inB x.f4 1 16 with
      | false =>
       go_wp2_with fail
       go_ret
       exact ⟨by rw [hr.out, h0, h1, h2, h3, h4, h5]; simp, hB⟩
      | true =>
       go_wp2_with fail
       go_ret
       exact ⟨by rw [hr.out, h0, h1, h2, h3, h4, h5]; rfl, hB⟩
theorem pN_any (x : N) (w : World) (hx : x.f3.size < 4294967281) : Calls Tryz.prog 82 #[.agg #[.string x.f0, .int .i64 x.f1, .int .i64 x.f2, .string x.f3, .bool x.f4]] w fun e w' => e = .returned (.bool (rightN x)) ∧ Below w.heap.size w w' := by
 have hB := below_alloc (Below.refl w.heap.size w) (.cells #[.string x.f0, .int .i64 x.f1, .int .i64 x.f2, .string x.f3, .bool x.f4] 34)
 have hO := blk_new w (.cells #[.string x.f0, .int .i64 x.f1, .int .i64 x.f2, .string x.f3, .bool x.f4] 34)
 obtain ⟨K, hK⟩ := labels_eq x.f3 hx
 obtain ⟨r, hr⟩ : ∃ r, r = rightN x := ⟨_, rfl⟩
 rw [← hr]
 unfold rightN at hr
 replace hr := Lib.hid hr
 have b0 := (blk_cell hO 0).trans rfl
 go_enter Tryz.func82, Tryz.ntmps82
 go_wp2_with fail
 refine (label_IsName.calls x.f0 _ _ rfl).mono ?_
 rintro e' w0 ⟨rfl, hb⟩
 replace hO := blk_below hO hb
 replace hB := below_then hB hB.size hb
 clear hb
 have c0 := (blk_cell hO 3).trans rfl
 cases h0 : nm x.f0 with
 | false =>
  go_wp2_with fail
  go_ret
  exact ⟨by rw [hr.out, h0]; simp, hB⟩
 | true =>
  go_wp2_with fail
  refine (label_IsLabels.calls K x.f3 _ _ (hK K (Nat.le_refl _))).mono ?_
  rintro e' w1 ⟨rfl, hb⟩
  replace hO := blk_below hO hb
  replace hB := below_then hB hB.size hb
  clear hb
  have c1 := (blk_cell hO 1).trans rfl
  cases h1 : labS x.f3 with
  | false =>
   go_wp2_with fail
   go_ret
   exact ⟨by rw [hr.out, h0, h1]; simp, hB⟩
  | true =>
   go_wp2_with fail
   refine (within_any x.f1 0 2 _).mono ?_
   rintro e' _ ⟨rfl, rfl⟩
   have c2 := (blk_cell hO 2).trans rfl
   cases h2 : inB x.f1 0 2 with
   | false =>
    go_wp2_with fail
    go_ret
    exact ⟨by rw [hr.out, h0, h1, h2]; simp, hB⟩
   | true =>
    go_wp2_with fail
    refine (within_any x.f2 0 4 _).mono ?_
    rintro e' _ ⟨rfl, rfl⟩
    cases h3 : inB x.f2 0 4 with
    | false =>
     go_wp2_with fail
     go_ret
     exact ⟨by rw [hr.out, h0, h1, h2, h3]; simp, hB⟩
    | true =>
     go_wp2_with fail
     go_ret
     exact ⟨by rw [hr.out, h0, h1, h2, h3]; rfl, hB⟩
def Pb (w w' : World) (b : Nat) (A B : Option Addr) (n c m d : Nat) : Prop := w'.heap[b]? = some (.cells #[.slice A n c, .slice B m d] 67 (0, 0)) ∧ Below w.heap.size w w'
theorem Pb.below {w w' w2 : World} {b : Nat} {A B : Option Addr} {n c m d : Nat} (h : Pb w w' b A B n c m d) (hb : Below w'.heap.size w' w2) : Pb w w2 b A B n c m d := ⟨blk_below h.1 hb, below_then h.2 h.2.size hb⟩
theorem rdW0 (l : List W) (j : Nat) : rd_T32 l (j : Int) = l.getD j z32 := by unfold rd_T32; rw [Int.toNat_natCast]
theorem rdN0 (l : List N) (j : Nat) : rd_T34 l (j : Int) = l.getD j z34 := by unfold rd_T34; rw [Int.toNat_natCast]
set_option maxHeartbeats 4000000 in
set_option maxRecDepth 100000 in
theorem place_any (A B : Option Addr) (c d : Nat) (ws : List W) (ns : List N) (w : World) (hA : Kd.C k32 w A ws.length ws) (hN : Kd.C k34 w B ns.length ns) (hs : Small ws ns) : Calls Tryz.prog 37 #[.agg #[.slice A ws.length c, .slice B ns.length d]] w fun e w' => e = .returned (.bool (rightP ws ns)) ∧ Below w.heap.size w w' := by
 obtain ⟨r, hr⟩ : ∃ r, r = rightP ws ns := ⟨_, rfl⟩
 rw [← hr]
 unfold rightP at hr
 replace hr := Lib.hid hr
 have hB := below_alloc (Below.refl w.heap.size w) (.cells #[.slice A ws.length c, .slice B ns.length d] 67)
 have hF := Aside0.mk (show Pb w _ w.heap.size A B ws.length c ns.length d from ⟨blk_new w (.cells #[.slice A ws.length c, .slice B ns.length d] 67), hB⟩)
 replace hA := Aside0.mk hA
 replace hN := Aside0.mk hN
 replace hs := Aside0.mk hs
 by_cases h8 : ws.length ≤ 8
 ·have g8 : decide ((8 : Int) < (ws.length : Int)) = false := decide_eq_false (by omega)
  have e8 := Lib.hid (decide_eq_true h8)
  by_cases h9 : ns.length ≤ 8
  ·have g9 : decide ((8 : Int) < (ns.length : Int)) = false := decide_eq_false (by omega)
   have e9 := Lib.hid (decide_eq_true h9)
   obtain ⟨b, hb_⟩ : ∃ b, b = w.heap.size := ⟨_, rfl⟩
   have hF' : Aside0 (Pb w (w.alloc (.cells #[.slice A ws.length c, .slice B ns.length d] 67)) b A B ws.length c ns.length d) := by rw [hb_]; exact hF
   clear hF
   replace hb_ := Lib.hid hb_
   go_enter Tryz.func37, Tryz.ntmps37
   go_wp2_with fail
   clear g8 g9 hB
   rw [← hb_.out]
   revert hF'
   generalize w.alloc (.cells #[.slice A ws.length c, .slice B ns.length d] 67) = wa
   intro hF
   obtain ⟨GW, hGW⟩ : ∃ g, g = goW ws ByteArray.empty := ⟨_, rfl⟩
   go_loopg [3, 21] ws.length (fun kx v3 v_ wr => ∃ (i : Nat) (last : ByteArray), v3 = .string last ∧ v_ = .int .i64 (i : Int) ∧ i + kx = ws.length ∧ Aside0 (GW = goW (ws.drop i) last) ∧ Aside0 (Pb w wr b A B ws.length c ns.length d))
   case atStart => exact ⟨0, ⟨#[]⟩, rfl, rfl, by omega, Aside0.mk hGW, hF⟩
   case round =>
    clear hF
    obtain ⟨i, last, rfl, rfl, hik, hI, hF⟩ := hrel
    by_cases hi : i < ws.length
    ·obtain ⟨m, rfl⟩ : ∃ m, gk = m + 1 := ⟨gk - 1, by omega⟩
     have d1 : decide ((i : Int) < (ws.length : Int)) = true := decide_eq_true (by omega)
     have hsz := hs.out.1 (ws.getD i z32) (by rw [List.getD_eq_getElem?_getD, List.getElem?_eq_getElem hi]; exact List.getElem_mem _)
     have hd : ws.drop i = ws.getD i z32 :: ws.drop (i + 1) := by
      rw [List.drop_eq_getElem_cons hi, List.getD_eq_getElem?_getD, List.getElem?_eq_getElem hi]; rfl
     have hI' := hI.out
     rw [hd] at hI'
     unfold goW at hI'
     clear hd hI
     obtain ⟨ad, eA, c0, c1, c2, c3, c4, c5⟩ := at_T32 (Kd.C_below hA.out hF.out.2) (i : Int) (by omega) (by omega)
     cases eA
     rw [rdW0, Int.toNat_natCast] at c0
     rw [rdW0, Int.toNat_natCast] at c1
     rw [rdW0, Int.toNat_natCast] at c2
     rw [rdW0, Int.toNat_natCast] at c3
     rw [rdW0, Int.toNat_natCast] at c4
     rw [rdW0, Int.toNat_natCast] at c5
     obtain ⟨x, hx⟩ : ∃ x, x = ws.getD i z32 := ⟨_, rfl⟩
     rw [← hx] at hI' hsz c0 c1 c2 c3 c4 c5
     clear hx
     have pi : (0 ≤ (i : Int)) = True := eq_true (by omega)
     have qi : ((i : Int) < (ws.length : Int)) = True := eq_true (by omega)
     have b0 := (blk_cell hF.out.1 0).trans rfl
     have hX := blk_new wr (.cells #[.string x.f0, .int .i64 x.f1, .int .i64 x.f2, .int .i64 x.f3, .int .i64 x.f4, .string x.f5] 32)
     have hq := below_alloc (Below.refl wr.heap.size wr) (.cells #[.string x.f0, .int .i64 x.f1, .int .i64 x.f2, .int .i64 x.f3, .int .i64 x.f4, .string x.f5] 32)
     have x0 := (blk_cell hX 0).trans rfl
     have x1 := (blk_cell hX 1).trans rfl
     have x2 := (blk_cell hX 2).trans rfl
     have x3 := (blk_cell hX 3).trans rfl
     have x4 := (blk_cell hX 4).trans rfl
     have x5 := (blk_cell hX 5).trans rfl
     go_wp2_with fail
     clear x0 x1 x2 x3 x4 x5 b0 c0 c1 c2 c3 c4 c5
     replace hF := Aside0.mk (hF.out.below hq)
     clear hq
     generalize wr.alloc (.cells #[.string x.f0, .int .i64 x.f1, .int .i64 x.f2, .int .i64 x.f3, .int .i64 x.f4, .string x.f5] 32) = wx at *
     generalize wr.heap.size = bx at *
     refine (pW_any x wx hsz).mono ?_
     rintro e' w2 ⟨rfl, hb⟩
     replace hF := Aside0.mk (hF.out.below hb)
     replace hX := blk_below hX hb
     clear hb
     have x0 := (blk_cell hX 0).trans rfl
     have hlt : lt last x.f0 = Op.bytesLess last.toList x.f0.toList := rfl
     rw [hlt] at hI'
     cases h1 : rightW x with
     | false =>
      replace hI' := Lib.hid (show GW = false from by rw [hI', h1]; simp)
      go_wp2_with fail
      go_ret
      exact ⟨by rw [hr.out, ← hGW, hI'.out]; simp, hF.out.2⟩
     | true =>
      cases h2 : Op.bytesLess last.toList x.f0.toList with
      | false =>
       replace hI' := Lib.hid (show GW = false from by rw [hI', h1, h2]; simp)
       go_wp2_with fail
       go_ret
       exact ⟨by rw [hr.out, ← hGW, hI'.out]; simp, hF.out.2⟩
      | true =>
       rw [h1, h2] at hI'
       replace hI' := Lib.hid hI'
       go_wp2_with fail
       go_roundg m
       case measure => omega
       case rel => exact ⟨i + 1, x.f0, rfl, by first | rfl | (simp; done), by omega, Aside0.mk (by rw [hI'.out]; simp), hF⟩
    ·have d1 : decide ((i : Int) < (ws.length : Int)) = false := decide_eq_false (by omega)
     have hG_ := hI.out
     rw [List.drop_of_length_le (by omega)] at hG_
     clear hI
     replace hG_ := Lib.hid (show GW = true from hG_)
     have b1 := (blk_cell hF.out.1 1).trans rfl
     have hGt := hG_
     clear hG_
     go_wp2_with fail
     clear b1 d1
     obtain ⟨GN, hGN⟩ : ∃ g, g = goN ns ByteArray.empty := ⟨_, rfl⟩
     go_loopg [3, 40] ns.length (fun kx v3 v_ wr => ∃ (i : Nat) (last : ByteArray), v3 = .string last ∧ v_ = .int .i64 (i : Int) ∧ i + kx = ns.length ∧ Aside0 (GN = goN (ns.drop i) last) ∧ Aside0 (Pb w wr b A B ws.length c ns.length d))
     case atStart => exact ⟨0, ⟨#[]⟩, rfl, rfl, by omega, Aside0.mk hGN, hF⟩
     case round =>
      clear hF
      obtain ⟨i, last, rfl, rfl, hik, hI, hF⟩ := hrel
      by_cases hi : i < ns.length
      ·obtain ⟨m, rfl⟩ : ∃ m, gk = m + 1 := ⟨gk - 1, by omega⟩
       have d1 : decide ((i : Int) < (ns.length : Int)) = true := decide_eq_true (by omega)
       have hsz := hs.out.2 (ns.getD i z34) (by rw [List.getD_eq_getElem?_getD, List.getElem?_eq_getElem hi]; exact List.getElem_mem _)
       have hd : ns.drop i = ns.getD i z34 :: ns.drop (i + 1) := by
        rw [List.drop_eq_getElem_cons hi, List.getD_eq_getElem?_getD, List.getElem?_eq_getElem hi]; rfl
       have hI' := hI.out
       rw [hd] at hI'
       unfold goN at hI'
       clear hd hI
       obtain ⟨ad, eA, c0, c1, c2, c3, c4⟩ := at_T34 (Kd.C_below hN.out hF.out.2) (i : Int) (by omega) (by omega)
       cases eA
       rw [rdN0, Int.toNat_natCast] at c0
       rw [rdN0, Int.toNat_natCast] at c1
       rw [rdN0, Int.toNat_natCast] at c2
       rw [rdN0, Int.toNat_natCast] at c3
       rw [rdN0, Int.toNat_natCast] at c4
       obtain ⟨x, hx⟩ : ∃ x, x = ns.getD i z34 := ⟨_, rfl⟩
       rw [← hx] at hI' hsz c0 c1 c2 c3 c4
       clear hx
       have pi : (0 ≤ (i : Int)) = True := eq_true (by omega)
       have qi : ((i : Int) < (ns.length : Int)) = True := eq_true (by omega)
       have b0 := (blk_cell hF.out.1 1).trans rfl
       have hX := blk_new wr (.cells #[.string x.f0, .int .i64 x.f1, .int .i64 x.f2, .string x.f3, .bool x.f4] 34)
       have hq := below_alloc (Below.refl wr.heap.size wr) (.cells #[.string x.f0, .int .i64 x.f1, .int .i64 x.f2, .string x.f3, .bool x.f4] 34)
       have x0 := (blk_cell hX 0).trans rfl
       have x1 := (blk_cell hX 1).trans rfl
       have x2 := (blk_cell hX 2).trans rfl
       have x3 := (blk_cell hX 3).trans rfl
       have x4 := (blk_cell hX 4).trans rfl
       go_wp2_with fail
       clear x0 x1 x2 x3 x4 b0 c0 c1 c2 c3 c4
       replace hF := Aside0.mk (hF.out.below hq)
       clear hq
       generalize wr.alloc (.cells #[.string x.f0, .int .i64 x.f1, .int .i64 x.f2, .string x.f3, .bool x.f4] 34) = wx at *
       generalize wr.heap.size = bx at *
       refine (pN_any x wx hsz).mono ?_
       rintro e' w2 ⟨rfl, hb⟩
       replace hF := Aside0.mk (hF.out.below hb)
       replace hX := blk_below hX hb
       clear hb
       have x0 := (blk_cell hX 0).trans rfl
       have hlt : lt last x.f0 = Op.bytesLess last.toList x.f0.toList := rfl
       rw [hlt] at hI'
       cases h1 : rightN x with
       | false =>
        replace hI' := Lib.hid (show GN = false from by rw [hI', h1]; simp)
        go_wp2_with fail
        go_ret
        exact ⟨by rw [hr.out, ← hGW, hGt.out, ← hGN, hI'.out]; simp, hF.out.2⟩
       | true =>
        cases h2 : Op.bytesLess last.toList x.f0.toList with
        | false =>
         replace hI' := Lib.hid (show GN = false from by rw [hI', h1, h2]; simp)
         go_wp2_with fail
         go_ret
         exact ⟨by rw [hr.out, ← hGW, hGt.out, ← hGN, hI'.out]; simp, hF.out.2⟩
        | true =>
         rw [h1, h2] at hI'
         replace hI' := Lib.hid hI'
         go_wp2_with fail
         go_roundg m
         case measure => omega
         case rel => exact ⟨i + 1, x.f0, rfl, by first | rfl | (simp; done), by omega, Aside0.mk (by rw [hI'.out]; simp), hF⟩
      ·have d1 : decide ((i : Int) < (ns.length : Int)) = false := decide_eq_false (by omega)
       have hG_ := hI.out
       rw [List.drop_of_length_le (by omega)] at hG_
       clear hI
       replace hG_ := Lib.hid (show GN = true from hG_)
       go_wp2_with fail
       go_ret
       exact ⟨by rw [hr.out, ← hGW, hGt.out, ← hGN, hG_.out, e8.out, e9.out]; rfl, hF.out.2⟩
  ·have g9 : decide ((8 : Int) < (ns.length : Int)) = true := decide_eq_true (by omega)
   have e9 := Lib.hid (decide_eq_false h9)
   go_enter Tryz.func37, Tryz.ntmps37
   go_wp2_with fail
   go_ret
   exact ⟨by rw [hr.out, e9.out]; simp, hB⟩
 ·have g8 : decide ((8 : Int) < (ws.length : Int)) = true := decide_eq_true (by omega)
  have e8 := Lib.hid (decide_eq_false h8)
  go_enter Tryz.func37, Tryz.ntmps37
  go_wp2_with fail
  go_ret
  exact ⟨by rw [hr.out, e8.out]; simp, hB⟩
theorem rowW {w : World} {q : Nat} (l : List W) (hq : w.heap[q]? = some (.cells (InW.fl l).toArray 32 (0, 0))) (hm : l.length ≤ 1000) : Kd.C k32 w (some ⟨q, 0, none⟩) l.length l := by
 have hlen : (InW.fl l).length = l.length * 6 := InW.fl_len l
 exact (Kd.R_reads' (show k32.R 32 w 0 (fun _ => True) (.slice (some ⟨q, 0, none⟩) l.length l.length) l from InW.R_iff.2 ⟨fun _ _ => trivial, hlen, .inr ⟨q, l.length, _, rfl, Nat.zero_le _, hq, Nat.le_refl _, Nat.le_trans hm (by decide), by rw [List.size_toArray, hlen], by rw [← hlen]; exact List.take_length⟩⟩)).2.2
theorem rowN {w : World} {q : Nat} (l : List N) (hq : w.heap[q]? = some (.cells (InN.fl l).toArray 34 (0, 0))) (hm : l.length ≤ 1000) : Kd.C k34 w (some ⟨q, 0, none⟩) l.length l := by
 have hlen : (InN.fl l).length = l.length * 5 := InN.fl_len l
 exact (Kd.R_reads' (show k34.R 34 w 0 (fun _ => True) (.slice (some ⟨q, 0, none⟩) l.length l.length) l from InN.R_iff.2 ⟨fun _ _ => trivial, hlen, .inr ⟨q, l.length, _, rfl, Nat.zero_le _, hq, Nat.le_refl _, Nat.le_trans hm (by decide), by rw [List.size_toArray, hlen], by rw [← hlen]; exact List.take_length⟩⟩)).2.2
theorem oneW (x : W) (w : World) (q : Nat) (h : x.f5.size < 4294967281) (hq : w.heap[q]? = some (.cells #[.string x.f0, .int .i64 x.f1, .int .i64 x.f2, .int .i64 x.f3, .int .i64 x.f4, .string x.f5] 32 (0, 0))) : Calls Tryz.prog 37 #[.agg #[.slice (some ⟨q, 0, none⟩) 1 1, .slice none 0 0]] w fun e w' => e = .returned (.bool (rightP [x] [])) ∧ Below w.heap.size w w' :=
 place_any (some ⟨q, 0, none⟩) none 1 0 [x] [] _ (rowW [x] hq (by simp)) ((Kd.R_reads' (Kd.R_nil k34 34 w 0 (fun _ => True))).2.2) ⟨fun z hz => by rw [List.mem_singleton.1 hz]; exact h, fun z hz => by cases hz⟩
theorem oneN (y : N) (w : World) (q : Nat) (h : y.f3.size < 4294967281) (hq : w.heap[q]? = some (.cells #[.string y.f0, .int .i64 y.f1, .int .i64 y.f2, .string y.f3, .bool y.f4] 34 (0, 0))) : Calls Tryz.prog 37 #[.agg #[.slice none 0 0, .slice (some ⟨q, 0, none⟩) 1 1]] w fun e w' => e = .returned (.bool (rightP [] [y])) ∧ Below w.heap.size w w' :=
 place_any none (some ⟨q, 0, none⟩) 0 1 [] [y] _ ((Kd.R_reads' (Kd.R_nil k32 32 w 0 (fun _ => True))).2.2) (rowN [y] hq (by simp)) ⟨fun z hz => by (cases hz), fun z hz => by rw [List.mem_singleton.1 hz]; exact h⟩
abbrev stV (e : Int) (A : Option Addr) (n c : Nat) (B : Option Addr) (m d : Nat) : Value := .agg #[.int .i64 e, .slice A n c, .slice B m d]
theorem problem_any (e : Int) (A B : Option Addr) (n c m d : Nat) (w : World) :
 Calls Tryz.prog 38 #[stV e A n c B m d] w fun r w' => r = .returned (.agg #[.slice A n c, .slice B m d]) ∧ Below w.heap.size w w' := by
 have HB := below_alloc (below_alloc (Below.refl w.heap.size w) (.cells #[.int .i64 e, .slice A n c, .slice B m d] 27)) (.cells #[.slice A n c, .slice B m d] 67)
 have hG := blk_new (w.alloc (.cells #[.int .i64 e, .slice A n c, .slice B m d] 27)) (.cells #[.slice A n c, .slice B m d] 67)
 have hG' := Lib.hid hG
 clear hG
 go_enter Tryz.func38, Tryz.ntmps38
 go_wp2_with fail
 refine bodyPost_ret (results_cell_row rfl _ _ (w.heap.size + 1) 67 #[.slice A n c, .slice B m d] (0, 0) _ rfl (by simpa using hG'.out) Tryz.underlying67 rfl (by kernel_rfl)) rfl ?_
 exact ⟨rfl, HB⟩
theorem right_any (e : Int) (A B : Option Addr) (c d : Nat) (ws : List W) (ns : List N) (w : World) (hA : Kd.C k32 w A ws.length ws) (hc : ws.length ≤ c) (hB : Kd.C k34 w B ns.length ns) (hd : ns.length ≤ d) (hs : Small ws ns) :
 Calls Tryz.prog 14 #[stV e A ws.length c B ns.length d] w fun r w' => r = .returned (.bool (rightS e ws ns)) ∧ Below w.heap.size w w' := by
 have HB := below_alloc (Below.refl w.heap.size w) (.cells #[.int .i64 e, .slice A ws.length c, .slice B ns.length d] 27)
 unfold rightS
 by_cases h1 : 0 ≤ e
 ·by_cases h2 : e ≤ 1099511627776
  ·have d1 : decide (0 ≤ e) = true := decide_eq_true h1
   have d2 : decide (e ≤ 1099511627776) = true := decide_eq_true h2
   rw [d1, d2]
   have hP := fun W (hA) (hB) => place_any A B c d ws ns W hA hB hs
   have hP' := Lib.hid hP
   clear hP
   go_enter Tryz.func14, Tryz.ntmps14
   go_wp2_with fail
   refine (problem_any e A B ws.length c ns.length d _).mono ?_; rintro r w1 ⟨rfl, hb1⟩
   have HB1 := below_then HB HB.size hb1
   go_wp2_with fail
   refine (hP'.out _ (Kd.C_below hA HB1) (Kd.C_below hB HB1)).mono ?_; rintro r w2 ⟨rfl, hb2⟩
   go_wp2_with fail
   go_ret
   exact ⟨by simp, below_then HB1 HB1.size hb2⟩
  ·have d1 : decide (0 ≤ e) = true := decide_eq_true h1
   have d2 : decide (e ≤ 1099511627776) = false := decide_eq_false h2
   rw [d1, d2]
   go_enter Tryz.func14, Tryz.ntmps14
   go_wp2_with fail
   go_ret
   exact ⟨by simp, HB⟩
 ·have d1 : decide (0 ≤ e) = false := decide_eq_false h1
  rw [d1]
  go_enter Tryz.func14, Tryz.ntmps14
  go_wp2_with fail
  go_ret
  exact ⟨by simp, HB⟩
set_option maxHeartbeats 8000000 in
set_option maxRecDepth 100000 in
theorem iop_any (k : Int) (x : W) (y : N) (id : ByteArray) (want : Int) (w : World) (hx : x.f5.size < 4294967281) (hy : y.f3.size < 4294967281) :
 Calls Tryz.prog 29 #[.agg #[.int .i64 k, .string x.f0, .int .i64 x.f1, .int .i64 x.f2, .int .i64 x.f3, .int .i64 x.f4, .string x.f5, .string y.f0, .int .i64 y.f1, .int .i64 y.f2, .string y.f3, .bool y.f4, .string id, .int .i64 want]] w fun e' w' => e' = .returned (.bool (rightO k x y id want)) ∧ Below w.heap.size w w' := by
 have hB := below_alloc (Below.refl w.heap.size w) (.cells #[.int .i64 k, .string x.f0, .int .i64 x.f1, .int .i64 x.f2, .int .i64 x.f3, .int .i64 x.f4, .string x.f5, .string y.f0, .int .i64 y.f1, .int .i64 y.f2, .string y.f3, .bool y.f4, .string id, .int .i64 want] 36)
 have hO := blk_new w (.cells #[.int .i64 k, .string x.f0, .int .i64 x.f1, .int .i64 x.f2, .int .i64 x.f3, .int .i64 x.f4, .string x.f5, .string y.f0, .int .i64 y.f1, .int .i64 y.f2, .string y.f3, .bool y.f4, .string id, .int .i64 want] 36)
 obtain ⟨r, hr⟩ : ∃ r, r = rightO k x y id want := ⟨_, rfl⟩
 rw [← hr]
 unfold rightO at hr
 have o0 := (blk_cell hO 0).trans rfl
 have o1 := (blk_cell hO 1).trans rfl
 have o2 := (blk_cell hO 2).trans rfl
 have o3 := (blk_cell hO 3).trans rfl
 have o4 := (blk_cell hO 4).trans rfl
 have o5 := (blk_cell hO 5).trans rfl
 have o6 := (blk_cell hO 6).trans rfl
 have o7 := (blk_cell hO 7).trans rfl
 have o8 := (blk_cell hO 8).trans rfl
 have o9 := (blk_cell hO 9).trans rfl
 have o10 := (blk_cell hO 10).trans rfl
 have o11 := (blk_cell hO 11).trans rfl
 have o12 := (blk_cell hO 12).trans rfl
 have o13 := (blk_cell hO 13).trans rfl
 by_cases k1 : k = 1
 ·subst k1
  rw [if_pos rfl] at hr
  replace hr := Lib.hid hr
  have hz := below_alloc (Below.refl (w.alloc (.cells #[.int .i64 1, .string x.f0, .int .i64 x.f1, .int .i64 x.f2, .int .i64 x.f3, .int .i64 x.f4, .string x.f5, .string y.f0, .int .i64 y.f1, .int .i64 y.f2, .string y.f3, .bool y.f4, .string id, .int .i64 want] 36)).heap.size (w.alloc (.cells #[.int .i64 1, .string x.f0, .int .i64 x.f1, .int .i64 x.f2, .int .i64 x.f3, .int .i64 x.f4, .string x.f5, .string y.f0, .int .i64 y.f1, .int .i64 y.f2, .string y.f3, .bool y.f4, .string id, .int .i64 want] 36))) (.cells #[.string x.f0, .int .i64 x.f1, .int .i64 x.f2, .int .i64 x.f3, .int .i64 x.f4, .string x.f5] 32)
  have hZ := blk_new (w.alloc (.cells #[.int .i64 1, .string x.f0, .int .i64 x.f1, .int .i64 x.f2, .int .i64 x.f3, .int .i64 x.f4, .string x.f5, .string y.f0, .int .i64 y.f1, .int .i64 y.f2, .string y.f3, .bool y.f4, .string id, .int .i64 want] 36)) (.cells #[.string x.f0, .int .i64 x.f1, .int .i64 x.f2, .int .i64 x.f3, .int .i64 x.f4, .string x.f5] 32)
  rw [show (w.alloc (.cells #[.int .i64 1, .string x.f0, .int .i64 x.f1, .int .i64 x.f2, .int .i64 x.f3, .int .i64 x.f4, .string x.f5, .string y.f0, .int .i64 y.f1, .int .i64 y.f2, .string y.f3, .bool y.f4, .string id, .int .i64 want] 36)).heap.size = w.heap.size + 1 by simp] at hZ
  go_enter Tryz.func29, Tryz.ntmps29
  go_wp2_with fail
  refine (oneW x _ _ hx hZ).mono ?_
  rintro e' w2 ⟨rfl, hb2⟩
  go_wp2_with fail
  go_ret
  exact ⟨by rw [hr.out]; rfl, below_then (below_then hB hB.size hz) (below_then hB hB.size hz).size hb2⟩
 by_cases k4 : k = 4
 ·subst k4
  rw [if_neg (by decide), if_pos rfl] at hr
  replace hr := Lib.hid hr
  have hz := below_alloc (Below.refl (w.alloc (.cells #[.int .i64 4, .string x.f0, .int .i64 x.f1, .int .i64 x.f2, .int .i64 x.f3, .int .i64 x.f4, .string x.f5, .string y.f0, .int .i64 y.f1, .int .i64 y.f2, .string y.f3, .bool y.f4, .string id, .int .i64 want] 36)).heap.size (w.alloc (.cells #[.int .i64 4, .string x.f0, .int .i64 x.f1, .int .i64 x.f2, .int .i64 x.f3, .int .i64 x.f4, .string x.f5, .string y.f0, .int .i64 y.f1, .int .i64 y.f2, .string y.f3, .bool y.f4, .string id, .int .i64 want] 36))) (.cells #[.string y.f0, .int .i64 y.f1, .int .i64 y.f2, .string y.f3, .bool y.f4] 34)
  have hZ := blk_new (w.alloc (.cells #[.int .i64 4, .string x.f0, .int .i64 x.f1, .int .i64 x.f2, .int .i64 x.f3, .int .i64 x.f4, .string x.f5, .string y.f0, .int .i64 y.f1, .int .i64 y.f2, .string y.f3, .bool y.f4, .string id, .int .i64 want] 36)) (.cells #[.string y.f0, .int .i64 y.f1, .int .i64 y.f2, .string y.f3, .bool y.f4] 34)
  rw [show (w.alloc (.cells #[.int .i64 4, .string x.f0, .int .i64 x.f1, .int .i64 x.f2, .int .i64 x.f3, .int .i64 x.f4, .string x.f5, .string y.f0, .int .i64 y.f1, .int .i64 y.f2, .string y.f3, .bool y.f4, .string id, .int .i64 want] 36)).heap.size = w.heap.size + 1 by simp] at hZ
  go_enter Tryz.func29, Tryz.ntmps29
  go_wp2_with fail
  refine (oneN y _ _ hy hZ).mono ?_
  rintro e' w2 ⟨rfl, hb2⟩
  go_wp2_with fail
  go_ret
  exact ⟨by rw [hr.out]; rfl, below_then (below_then hB hB.size hz) (below_then hB hB.size hz).size hb2⟩
 by_cases k2 : k = 2
 ·subst k2
  rw [if_neg (by decide), if_neg (by decide), if_pos rfl] at hr
  cases hn : nm id with
  | false =>
   have hn' := Lib.hid hn
   replace hr := Lib.hid (show r = false from by simp [hr, hn])
   go_enter Tryz.func29, Tryz.ntmps29
   go_wp2_with (first | (go_at_call 68; refine (label_IsName.calls id _ _ rfl).mono ?_; rintro e' w1 ⟨rfl, hb⟩; rw [hn'.out]; have hO1 := blk_below hO hb; have hB1 := below_then hB hB.size hb; have p13 := (blk_cell hO1 13).trans rfl; have p0 := (blk_cell hO1 0).trans rfl))
   go_ret
   exact ⟨by rw [hr.out]; rfl, hB1⟩
  | true =>
   have hn' := Lib.hid hn
   by_cases q0 : 0 ≤ want
   ·have d0 : decide ((0 : Int) ≤ want) = true := decide_eq_true q0
    by_cases q1 : want ≤ 16
    ·have d1 : decide (want ≤ (16 : Int)) = true := decide_eq_true q1
     replace hr := Lib.hid (show r = true from by rw [hr, hn]; unfold inB; rw [d0, d1]; rfl)
     clear hn q0 q1
     go_enter Tryz.func29, Tryz.ntmps29
     go_wp2_with (first | (go_at_call 68; refine (label_IsName.calls id _ _ rfl).mono ?_; rintro e' w1 ⟨rfl, hb⟩; rw [hn'.out]; have hO1 := blk_below hO hb; have hB1 := below_then hB hB.size hb; have p13 := (blk_cell hO1 13).trans rfl; have p0 := (blk_cell hO1 0).trans rfl))
     go_ret
     exact ⟨by rw [hr.out]; rfl, hB1⟩
    ·have d1 : decide (want ≤ (16 : Int)) = false := decide_eq_false q1
     replace hr := Lib.hid (show r = false from by rw [hr, hn]; unfold inB; rw [d0, d1]; rfl)
     clear hn q0 q1
     go_enter Tryz.func29, Tryz.ntmps29
     go_wp2_with (first | (go_at_call 68; refine (label_IsName.calls id _ _ rfl).mono ?_; rintro e' w1 ⟨rfl, hb⟩; rw [hn'.out]; have hO1 := blk_below hO hb; have hB1 := below_then hB hB.size hb; have p13 := (blk_cell hO1 13).trans rfl; have p0 := (blk_cell hO1 0).trans rfl))
     go_ret
     exact ⟨by rw [hr.out]; rfl, hB1⟩
   ·have d0 : decide ((0 : Int) ≤ want) = false := decide_eq_false q0
    replace hr := Lib.hid (show r = false from by rw [hr, hn]; unfold inB; rw [d0]; rfl)
    clear hn q0
    go_enter Tryz.func29, Tryz.ntmps29
    go_wp2_with (first | (go_at_call 68; refine (label_IsName.calls id _ _ rfl).mono ?_; rintro e' w1 ⟨rfl, hb⟩; rw [hn'.out]; have hO1 := blk_below hO hb; have hB1 := below_then hB hB.size hb; have p13 := (blk_cell hO1 13).trans rfl; have p0 := (blk_cell hO1 0).trans rfl))
    go_ret
    exact ⟨by rw [hr.out]; rfl, hB1⟩
 by_cases k3 : k = 3
 ·subst k3
  rw [if_neg (by decide), if_neg (by decide), if_neg (by decide), if_pos rfl] at hr
  cases hn : nm id with
  | false =>
   have hn' := Lib.hid hn
   replace hr := Lib.hid (show r = false from by simp [hr, hn])
   go_enter Tryz.func29, Tryz.ntmps29
   go_wp2_with (first | (go_at_call 68; refine (label_IsName.calls id _ _ rfl).mono ?_; rintro e' w1 ⟨rfl, hb⟩; rw [hn'.out]; have hO1 := blk_below hO hb; have hB1 := below_then hB hB.size hb; have p13 := (blk_cell hO1 13).trans rfl; have p0 := (blk_cell hO1 0).trans rfl))
   go_ret
   exact ⟨by rw [hr.out]; rfl, hB1⟩
  | true =>
   have hn' := Lib.hid hn
   replace hr := Lib.hid (show r = true from by simp [hr, hn])
   clear hn
   go_enter Tryz.func29, Tryz.ntmps29
   go_wp2_with (first | (go_at_call 68; refine (label_IsName.calls id _ _ rfl).mono ?_; rintro e' w1 ⟨rfl, hb⟩; rw [hn'.out]; have hO1 := blk_below hO hb; have hB1 := below_then hB hB.size hb; have p13 := (blk_cell hO1 13).trans rfl; have p0 := (blk_cell hO1 0).trans rfl))
   go_ret
   exact ⟨by rw [hr.out]; rfl, hB1⟩
 by_cases k5 : k = 5
 ·subst k5
  rw [if_neg (by decide), if_neg (by decide), if_neg (by decide), if_neg (by decide), if_pos rfl] at hr
  cases hn : nm id with
  | false =>
   have hn' := Lib.hid hn
   replace hr := Lib.hid (show r = false from by simp [hr, hn])
   go_enter Tryz.func29, Tryz.ntmps29
   go_wp2_with (first | (go_at_call 68; refine (label_IsName.calls id _ _ rfl).mono ?_; rintro e' w1 ⟨rfl, hb⟩; rw [hn'.out]; have hO1 := blk_below hO hb; have hB1 := below_then hB hB.size hb; have p13 := (blk_cell hO1 13).trans rfl; have p0 := (blk_cell hO1 0).trans rfl))
   go_ret
   exact ⟨by rw [hr.out]; rfl, hB1⟩
  | true =>
   have hn' := Lib.hid hn
   replace hr := Lib.hid (show r = true from by simp [hr, hn])
   clear hn
   go_enter Tryz.func29, Tryz.ntmps29
   go_wp2_with (first | (go_at_call 68; refine (label_IsName.calls id _ _ rfl).mono ?_; rintro e' w1 ⟨rfl, hb⟩; rw [hn'.out]; have hO1 := blk_below hO hb; have hB1 := below_then hB hB.size hb; have p13 := (blk_cell hO1 13).trans rfl; have p0 := (blk_cell hO1 0).trans rfl))
   go_ret
   exact ⟨by rw [hr.out]; rfl, hB1⟩
 by_cases k6 : k = 6
 ·subst k6
  rw [if_neg (by decide), if_neg (by decide), if_neg (by decide), if_neg (by decide), if_neg (by decide), if_pos rfl] at hr
  cases hn : nm id with
  | false =>
   have hn' := Lib.hid hn
   replace hr := Lib.hid (show r = false from by simp [hr, hn])
   go_enter Tryz.func29, Tryz.ntmps29
   go_wp2_with (first | (go_at_call 68; refine (label_IsName.calls id _ _ rfl).mono ?_; rintro e' w1 ⟨rfl, hb⟩; rw [hn'.out]; have hO1 := blk_below hO hb; have hB1 := below_then hB hB.size hb; have p13 := (blk_cell hO1 13).trans rfl; have p0 := (blk_cell hO1 0).trans rfl))
   go_ret
   exact ⟨by rw [hr.out]; rfl, hB1⟩
  | true =>
   have hn' := Lib.hid hn
   replace hr := Lib.hid (show r = true from by simp [hr, hn])
   clear hn
   go_enter Tryz.func29, Tryz.ntmps29
   go_wp2_with (first | (go_at_call 68; refine (label_IsName.calls id _ _ rfl).mono ?_; rintro e' w1 ⟨rfl, hb⟩; rw [hn'.out]; have hO1 := blk_below hO hb; have hB1 := below_then hB hB.size hb; have p13 := (blk_cell hO1 13).trans rfl; have p0 := (blk_cell hO1 0).trans rfl))
   go_ret
   exact ⟨by rw [hr.out]; rfl, hB1⟩
 by_cases k7 : k = 7
 ·subst k7
  rw [if_neg (by decide), if_neg (by decide), if_neg (by decide), if_neg (by decide), if_neg (by decide), if_neg (by decide), if_pos rfl] at hr
  cases hn : nm id with
  | false =>
   have hn' := Lib.hid hn
   replace hr := Lib.hid (show r = false from by simp [hr, hn])
   go_enter Tryz.func29, Tryz.ntmps29
   go_wp2_with (first | (go_at_call 68; refine (label_IsName.calls id _ _ rfl).mono ?_; rintro e' w1 ⟨rfl, hb⟩; rw [hn'.out]; have hO1 := blk_below hO hb; have hB1 := below_then hB hB.size hb; have p13 := (blk_cell hO1 13).trans rfl; have p0 := (blk_cell hO1 0).trans rfl))
   go_ret
   exact ⟨by rw [hr.out]; rfl, hB1⟩
  | true =>
   have hn' := Lib.hid hn
   replace hr := Lib.hid (show r = true from by simp [hr, hn])
   clear hn
   go_enter Tryz.func29, Tryz.ntmps29
   go_wp2_with (first | (go_at_call 68; refine (label_IsName.calls id _ _ rfl).mono ?_; rintro e' w1 ⟨rfl, hb⟩; rw [hn'.out]; have hO1 := blk_below hO hb; have hB1 := below_then hB hB.size hb; have p13 := (blk_cell hO1 13).trans rfl; have p0 := (blk_cell hO1 0).trans rfl))
   go_ret
   exact ⟨by rw [hr.out]; rfl, hB1⟩
 rw [if_neg k1, if_neg k4, if_neg k2, if_neg k3, if_neg k5, if_neg k6, if_neg k7] at hr
 have e1 : (k == 1) = false := beq_eq_false_iff_ne.mpr k1
 have f1 : decide (k = 1) = false := decide_eq_false k1
 have e4 : (k == 4) = false := beq_eq_false_iff_ne.mpr k4
 have f4 : decide (k = 4) = false := decide_eq_false k4
 have e2 : (k == 2) = false := beq_eq_false_iff_ne.mpr k2
 have f2 : decide (k = 2) = false := decide_eq_false k2
 have e3 : (k == 3) = false := beq_eq_false_iff_ne.mpr k3
 have f3 : decide (k = 3) = false := decide_eq_false k3
 have e5 : (k == 5) = false := beq_eq_false_iff_ne.mpr k5
 have f5 : decide (k = 5) = false := decide_eq_false k5
 have e6 : (k == 6) = false := beq_eq_false_iff_ne.mpr k6
 have f6 : decide (k = 6) = false := decide_eq_false k6
 have e7 : (k == 7) = false := beq_eq_false_iff_ne.mpr k7
 have f7 : decide (k = 7) = false := decide_eq_false k7
 by_cases k8 : k = 8
 ·have e8 : (k == 8) = true := beq_iff_eq.mpr k8
  have f8 : decide (k = 8) = true := decide_eq_true k8
  rw [f8] at hr
  replace hr := Lib.hid hr
  clear k1 k4 k2 k3 k5 k6 k7 k8
  go_enter Tryz.func29, Tryz.ntmps29
  go_wp2_with fail
  go_ret
  exact ⟨by rw [hr.out]; rfl, hB⟩
 ·have e8 : (k == 8) = false := beq_eq_false_iff_ne.mpr k8
  have f8 : decide (k = 8) = false := decide_eq_false k8
  rw [f8] at hr
  replace hr := Lib.hid hr
  clear k1 k4 k2 k3 k5 k6 k7 k8
  go_enter Tryz.func29, Tryz.ntmps29
  go_wp2_with fail
  go_ret
  exact ⟨by rw [hr.out]; rfl, hB⟩
end Go.Proofs.YtldlkbjbfgieeaaGreatDoor.Ri
