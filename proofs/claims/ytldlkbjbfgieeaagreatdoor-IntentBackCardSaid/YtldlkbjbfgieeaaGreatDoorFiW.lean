/- intent.find among works. -/
/- thin -/
import Derived.Test.YtldlkbjbfgieeaaGreatDoorDeW
import Derived.Test.YtldlkbjbfgieeaaGreatDoorCb
import Derived.Test.YtldlkbjbfgieeaaGreatDoorKh
import Derived.Deep.LoopGhost
namespace Go.Proofs.YtldlkbjbfgieeaaGreatDoor.FiW
set_option linter.unusedVariables false
set_option linter.unusedSimpArgs false
open Go.RowKit Go.Proofs.YtldlkbjbfgieeaaGreatDoorW.PrintWords Go.Proofs.YtldlkbjbfgieeaaGreatDoorW.PrintLast Mo Q Rw InW Cb
theorem name_any (x : S32) (w : World) : Calls Tryz.prog 70 #[.agg #[.string x.f0, .int .i64 x.f1, .int .i64 x.f2, .int .i64 x.f3, .int .i64 x.f4, .string x.f5]] w fun e w' => e = .returned (.string x.f0) ∧ Below w.heap.size w w' := by
 go_enter Tryz.func70, Tryz.ntmps70
 go_wp2_with fail
 go_ret
 exact ⟨rfl, below_alloc (Below.refl _ _) _⟩
/-- an element's name against a text -/
theorem cl_any (x : S32) (id : ByteArray) (b : Nat) (w : World) (hb : w.heap[b]? = some (.cells #[.func (.func 70) #[] #[]] 78 (0, 0))) :
 Calls Tryz.prog 93 #[.agg #[.string x.f0, .int .i64 x.f1, .int .i64 x.f2, .int .i64 x.f3, .int .i64 x.f4, .string x.f5], .string id, .pointer (some ⟨b, 0, none⟩)] w fun e w' => e = .returned (.int .i64 (cm x.f0 id)) ∧ Below w.heap.size w w' := by
 have hc := (blk_cell hb 0).trans rfl
 have hlt := blk_lt hb
 go_enter Tryz.func93, Tryz.ntmps93
 go_wp2_with (first | (go_at_call 70; refine (name_any x _).mono ?_; rintro e w1 ⟨rfl, hb1⟩) | (go_at_call 94; refine (Sh.Tryz.strings_Compare _ _ _).mono ?_; rintro e w2 ⟨rfl, rfl⟩))
 go_ret
 exact ⟨rfl, below_then (below_alloc (Below.refl _ _) _) (by simp) hb1⟩
/-- how many stand ahead of a text; is it there? -/
def pos (l : List S32) (id : ByteArray) : Nat := l.countP fun x => lt x.f0 id
def has (l : List S32) (id : ByteArray) : Bool := decide (pos l id < l.length) && decide ((l.getD (pos l id) z32).f0 = id)
/-- what stands ahead of the text stands ahead of what does not -/
def Asc (l : List S32) : Prop := ∀ a b, a ≤ b → b < l.length → ∀ id, lt (l.getD b z32).f0 id = true → lt (l.getD a z32).f0 id = true
set_option maxHeartbeats 4000000 in
set_option maxRecDepth 100000 in
theorem bs_any (A : Option Addr) (c : Nat) (l : List S32) (id : ByteArray) (b : Nat) (w : World) (hC : Kd.C k32 w A l.length l) (hb : w.heap[b]? = some (.cells #[.func (.func 70) #[] #[]] 78 (0, 0))) (hs : Asc l) (hl : l.length ≤ 2000000000000) :
 Calls Tryz.prog 92 #[.slice A l.length c, .string id, .func (.func 93) #[] #[.pointer (some ⟨b, 0, none⟩)]] w fun e w' => e = .returned (.tuple #[.int .i64 (pos l id : Nat), .bool (has l id)]) ∧ Below w.heap.size w w' := by
 have HC := Aside0.mk hC
 have HBK := Aside0.mk hb
 have HS := Aside0.mk hs
 clear hC hb hs
 obtain ⟨P, hP⟩ : ∃ P, P = pos l id := ⟨_, rfl⟩
 obtain ⟨H, hH⟩ : ∃ H, H = has l id := ⟨_, rfl⟩
 rw [← hP, ← hH]
 replace hP := Aside0.mk hP
 replace hH := Aside0.mk hH
 go_enter Tryz.func92, Tryz.ntmps92
 go_wp2
 go_loopg [9, 10] l.length (fun kx s9 s10 wr => ∃ lo hi : Nat, s9 = .int .i64 lo ∧ s10 = .int .i64 hi ∧ lo ≤ hi ∧ hi ≤ l.length ∧ hi - lo ≤ kx ∧ Aside0 (Below w.heap.size w wr) ∧
  Aside0 ((∀ t, t < lo → lt (l.getD t z32).f0 id = true) ∧ (∀ t, hi ≤ t → t < l.length → lt (l.getD t z32).f0 id = false)))
 case atStart => exact ⟨0, l.length, rfl, rfl, Nat.zero_le _, Nat.le_refl _, by omega, ⟨Below.refl _ _⟩, ⟨fun t ht => absurd ht (Nat.not_lt_zero _), fun t h1 h2 => by omega⟩⟩
 case round =>
  obtain ⟨lo, hi, rfl, rfl, hlh, hin, hg, S1, I⟩ := hrel
  by_cases hlt : lo < hi
  ·obtain ⟨ad, rfl, c0, c1, c2, c3, c4, c5⟩ := at_T32 (Kd.C_below HC.out S1.out) (((lo + hi) / 2 : Nat) : Int) (by omega) (by omega)
   have Y : l.getD ((lo + hi) / 2) z32 = rd_T32 l (((lo + hi) / 2 : Nat) : Int) := by unfold rd_T32; rw [Int.toNat_natCast]
   have hb1 := blk_below HBK.out S1.out
   simp only [Int.toNat_natCast] at c0 c1 c2 c3 c4
   try simp only [Int.toNat_natCast] at c5
   generalize rd_T32 l (((lo + hi) / 2 : Nat) : Int) = y at *
   replace Y := Aside0.mk Y
   by_cases hyx : lt y.f0 id = true
   ·have hn : cm y.f0 id < 0 := (cm_lt _ _).2 hyx
    go_wp2_with (go_at_call 93; refine (cl_any y id b _ hb1).mono ?_; rintro e w' ⟨rfl, hb2⟩)
    go_roundg (hi - ((lo + hi) / 2 + 1))
    case measure => omega
    case rel =>
     have I2 : Aside0 ((∀ t, t < (lo + hi) / 2 + 1 → lt (l.getD t z32).f0 id = true) ∧ (∀ t, hi ≤ t → t < l.length → lt (l.getD t z32).f0 id = false)) := ⟨fun t ht => HS.out t ((lo + hi) / 2) (by omega) (by omega) id (by rw [Y.out]; exact hyx), I.out.2⟩
     exact ⟨(lo + hi) / 2 + 1, hi, by rw [show ((lo : Int) + (hi : Int)) / 2 + 1 = (((lo + hi) / 2 + 1 : Nat) : Int) by omega], rfl, by omega, hin, Nat.le_refl _, ⟨below_then S1.out S1.out.size hb2⟩, I2⟩
   ·have hn : ¬ cm y.f0 id < 0 := fun h => hyx ((cm_lt _ _).1 h)
    go_wp2_with (go_at_call 93; refine (cl_any y id b _ hb1).mono ?_; rintro e w' ⟨rfl, hb2⟩)
    go_roundg ((lo + hi) / 2 - lo)
    case measure => omega
    case rel =>
     have I2 : Aside0 ((∀ t, t < lo → lt (l.getD t z32).f0 id = true) ∧ (∀ t, (lo + hi) / 2 ≤ t → t < l.length → lt (l.getD t z32).f0 id = false)) := ⟨I.out.1, fun t ht htn => by
      cases h : lt (l.getD t z32).f0 id with
      | false => rfl
      | true => have := HS.out ((lo + hi) / 2) t ht htn id h; rw [Y.out] at this; exact absurd this hyx⟩
     exact ⟨lo, (lo + hi) / 2, rfl, by rw [show ((lo : Int) + (hi : Int)) / 2 = (((lo + hi) / 2 : Nat) : Int) by omega], by omega, by omega, Nat.le_refl _, ⟨below_then S1.out S1.out.size hb2⟩, I2⟩
  ·obtain rfl : hi = lo := by omega
   have ecnt : pos l id = hi := countP_boundary (fun x : S32 => lt x.f0 id) z32 l hi hin I.out.1 I.out.2
   have eP : P = hi := hP.out.trans ecnt
   subst eP
   have eH : H = (decide (P < l.length) && decide ((l.getD P z32).f0 = id)) := by rw [hH.out]; unfold has; rw [ecnt]
   clear ecnt
   by_cases hn : P < l.length
   ·obtain ⟨ad, rfl, c0, c1, c2, c3, c4, c5⟩ := at_T32 (Kd.C_below HC.out S1.out) ((P : Nat) : Int) (by omega) (by omega)
    have Y : l.getD P z32 = rd_T32 l ((P : Nat) : Int) := by unfold rd_T32; rw [Int.toNat_natCast]
    have hb1 := blk_below HBK.out S1.out
    simp only [Int.toNat_natCast] at c0 c1 c2 c3 c4
    try simp only [Int.toNat_natCast] at c5
    rw [Y, decide_eq_true hn, Bool.true_and] at eH
    clear Y
    generalize rd_T32 l ((P : Nat) : Int) = y at *
    by_cases hyx : y.f0 = id
    ·have hc : cm y.f0 id = 0 := (cm_eq _ _).2 hyx
     rw [decide_eq_true hyx] at eH
     subst eH
     have hc' := Aside0.mk hc
     clear hyx hc
     go_wp2_with (go_at_call 93; refine (cl_any y id b _ hb1).mono ?_; rintro e w' ⟨rfl, hb2⟩)
     go_ret2
     exact ⟨by rw [hc'.out]; rfl, below_then S1.out S1.out.size hb2⟩
    ·have hc : ¬ cm y.f0 id = 0 := fun h => hyx ((cm_eq _ _).1 h)
     rw [decide_eq_false hyx] at eH
     subst eH
     have hc' := Aside0.mk hc
     clear hyx hc
     go_wp2_with (go_at_call 93; refine (cl_any y id b _ hb1).mono ?_; rintro e w' ⟨rfl, hb2⟩)
     go_ret2
     exact ⟨by first | rfl | simp [hc'.out], below_then S1.out S1.out.size hb2⟩
   ·rw [decide_eq_false hn, Bool.false_and] at eH
    subst eH
    go_wp2
    go_ret2
    exact ⟨rfl, S1.out⟩
theorem find_any (A : Option Addr) (c : Nat) (l : List S32) (id : ByteArray) (w : World) (hC : Kd.C k32 w A l.length l) (hs : Asc l) (hl : l.length ≤ 2000000000000) :
 Calls Tryz.prog 69 #[.slice A l.length c, .func (.func 70) #[] #[], .string id] w fun e w' => e = .returned (.tuple #[.int .i64 (pos l id : Nat), .bool (has l id)]) ∧ Below w.heap.size w w' := by
 have HB := below_alloc (Below.refl w.heap.size w) (.cells #[.func (.func 70) #[] #[]] 78)
 have hb := blk_new w (.cells #[.func (.func 70) #[] #[]] 78)
 have hC1 := Kd.C_below hC HB
 go_enter Tryz.func69, Tryz.ntmps69
 go_wp2_with fail
 refine (bs_any A c l id _ _ hC1 hb hs hl).mono ?_; rintro e w1 ⟨rfl, hb1⟩
 go_wp2_with fail
 go_ret2
 exact ⟨rfl, below_then HB HB.size hb1⟩
end Go.Proofs.YtldlkbjbfgieeaaGreatDoor.FiW
namespace Go.Proofs.YtldlkbjbfgieeaaGreatDoor.FiN
set_option linter.unusedVariables false
set_option linter.unusedSimpArgs false
open Go.RowKit Go.Proofs.YtldlkbjbfgieeaaGreatDoorW.PrintWords Go.Proofs.YtldlkbjbfgieeaaGreatDoorW.PrintLast Mo Q Rw InN Cb
theorem name_any (x : S34) (w : World) : Calls Tryz.prog 72 #[.agg #[.string x.f0, .int .i64 x.f1, .int .i64 x.f2, .string x.f3, .bool x.f4]] w fun e w' => e = .returned (.string x.f0) ∧ Below w.heap.size w w' := by
 go_enter Tryz.func72, Tryz.ntmps72
 go_wp2_with fail
 go_ret
 exact ⟨rfl, below_alloc (Below.refl _ _) _⟩
/-- an element's name against a text -/
theorem cl_any (x : S34) (id : ByteArray) (b : Nat) (w : World) (hb : w.heap[b]? = some (.cells #[.func (.func 72) #[] #[]] 79 (0, 0))) :
 Calls Tryz.prog 96 #[.agg #[.string x.f0, .int .i64 x.f1, .int .i64 x.f2, .string x.f3, .bool x.f4], .string id, .pointer (some ⟨b, 0, none⟩)] w fun e w' => e = .returned (.int .i64 (cm x.f0 id)) ∧ Below w.heap.size w w' := by
 have hc := (blk_cell hb 0).trans rfl
 have hlt := blk_lt hb
 go_enter Tryz.func96, Tryz.ntmps96
 go_wp2_with (first | (go_at_call 72; refine (name_any x _).mono ?_; rintro e w1 ⟨rfl, hb1⟩) | (go_at_call 94; refine (Sh.Tryz.strings_Compare _ _ _).mono ?_; rintro e w2 ⟨rfl, rfl⟩))
 go_ret
 exact ⟨rfl, below_then (below_alloc (Below.refl _ _) _) (by simp) hb1⟩
/-- how many stand ahead of a text; is it there? -/
def pos (l : List S34) (id : ByteArray) : Nat := l.countP fun x => lt x.f0 id
def has (l : List S34) (id : ByteArray) : Bool := decide (pos l id < l.length) && decide ((l.getD (pos l id) z34).f0 = id)
/-- what stands ahead of the text stands ahead of what does not -/
def Asc (l : List S34) : Prop := ∀ a b, a ≤ b → b < l.length → ∀ id, lt (l.getD b z34).f0 id = true → lt (l.getD a z34).f0 id = true
set_option maxHeartbeats 4000000 in
set_option maxRecDepth 100000 in
theorem bs_any (A : Option Addr) (c : Nat) (l : List S34) (id : ByteArray) (b : Nat) (w : World) (hC : Kd.C k34 w A l.length l) (hb : w.heap[b]? = some (.cells #[.func (.func 72) #[] #[]] 79 (0, 0))) (hs : Asc l) (hl : l.length ≤ 2000000000000) :
 Calls Tryz.prog 95 #[.slice A l.length c, .string id, .func (.func 96) #[] #[.pointer (some ⟨b, 0, none⟩)]] w fun e w' => e = .returned (.tuple #[.int .i64 (pos l id : Nat), .bool (has l id)]) ∧ Below w.heap.size w w' := by
 have HC := Aside0.mk hC
 have HBK := Aside0.mk hb
 have HS := Aside0.mk hs
 clear hC hb hs
 obtain ⟨P, hP⟩ : ∃ P, P = pos l id := ⟨_, rfl⟩
 obtain ⟨H, hH⟩ : ∃ H, H = has l id := ⟨_, rfl⟩
 rw [← hP, ← hH]
 replace hP := Aside0.mk hP
 replace hH := Aside0.mk hH
 go_enter Tryz.func95, Tryz.ntmps95
 go_wp2
 go_loopg [9, 10] l.length (fun kx s9 s10 wr => ∃ lo hi : Nat, s9 = .int .i64 lo ∧ s10 = .int .i64 hi ∧ lo ≤ hi ∧ hi ≤ l.length ∧ hi - lo ≤ kx ∧ Aside0 (Below w.heap.size w wr) ∧
  Aside0 ((∀ t, t < lo → lt (l.getD t z34).f0 id = true) ∧ (∀ t, hi ≤ t → t < l.length → lt (l.getD t z34).f0 id = false)))
 case atStart => exact ⟨0, l.length, rfl, rfl, Nat.zero_le _, Nat.le_refl _, by omega, ⟨Below.refl _ _⟩, ⟨fun t ht => absurd ht (Nat.not_lt_zero _), fun t h1 h2 => by omega⟩⟩
 case round =>
  obtain ⟨lo, hi, rfl, rfl, hlh, hin, hg, S1, I⟩ := hrel
  by_cases hlt : lo < hi
  ·obtain ⟨ad, rfl, c0, c1, c2, c3, c4⟩ := at_T34 (Kd.C_below HC.out S1.out) (((lo + hi) / 2 : Nat) : Int) (by omega) (by omega)
   have Y : l.getD ((lo + hi) / 2) z34 = rd_T34 l (((lo + hi) / 2 : Nat) : Int) := by unfold rd_T34; rw [Int.toNat_natCast]
   have hb1 := blk_below HBK.out S1.out
   simp only [Int.toNat_natCast] at c0 c1 c2 c3 c4
   try simp only [Int.toNat_natCast] at c5
   generalize rd_T34 l (((lo + hi) / 2 : Nat) : Int) = y at *
   replace Y := Aside0.mk Y
   by_cases hyx : lt y.f0 id = true
   ·have hn : cm y.f0 id < 0 := (cm_lt _ _).2 hyx
    go_wp2_with (go_at_call 96; refine (cl_any y id b _ hb1).mono ?_; rintro e w' ⟨rfl, hb2⟩)
    go_roundg (hi - ((lo + hi) / 2 + 1))
    case measure => omega
    case rel =>
     have I2 : Aside0 ((∀ t, t < (lo + hi) / 2 + 1 → lt (l.getD t z34).f0 id = true) ∧ (∀ t, hi ≤ t → t < l.length → lt (l.getD t z34).f0 id = false)) := ⟨fun t ht => HS.out t ((lo + hi) / 2) (by omega) (by omega) id (by rw [Y.out]; exact hyx), I.out.2⟩
     exact ⟨(lo + hi) / 2 + 1, hi, by rw [show ((lo : Int) + (hi : Int)) / 2 + 1 = (((lo + hi) / 2 + 1 : Nat) : Int) by omega], rfl, by omega, hin, Nat.le_refl _, ⟨below_then S1.out S1.out.size hb2⟩, I2⟩
   ·have hn : ¬ cm y.f0 id < 0 := fun h => hyx ((cm_lt _ _).1 h)
    go_wp2_with (go_at_call 96; refine (cl_any y id b _ hb1).mono ?_; rintro e w' ⟨rfl, hb2⟩)
    go_roundg ((lo + hi) / 2 - lo)
    case measure => omega
    case rel =>
     have I2 : Aside0 ((∀ t, t < lo → lt (l.getD t z34).f0 id = true) ∧ (∀ t, (lo + hi) / 2 ≤ t → t < l.length → lt (l.getD t z34).f0 id = false)) := ⟨I.out.1, fun t ht htn => by
      cases h : lt (l.getD t z34).f0 id with
      | false => rfl
      | true => have := HS.out ((lo + hi) / 2) t ht htn id h; rw [Y.out] at this; exact absurd this hyx⟩
     exact ⟨lo, (lo + hi) / 2, rfl, by rw [show ((lo : Int) + (hi : Int)) / 2 = (((lo + hi) / 2 : Nat) : Int) by omega], by omega, by omega, Nat.le_refl _, ⟨below_then S1.out S1.out.size hb2⟩, I2⟩
  ·obtain rfl : hi = lo := by omega
   have ecnt : pos l id = hi := countP_boundary (fun x : S34 => lt x.f0 id) z34 l hi hin I.out.1 I.out.2
   have eP : P = hi := hP.out.trans ecnt
   subst eP
   have eH : H = (decide (P < l.length) && decide ((l.getD P z34).f0 = id)) := by rw [hH.out]; unfold has; rw [ecnt]
   clear ecnt
   by_cases hn : P < l.length
   ·obtain ⟨ad, rfl, c0, c1, c2, c3, c4⟩ := at_T34 (Kd.C_below HC.out S1.out) ((P : Nat) : Int) (by omega) (by omega)
    have Y : l.getD P z34 = rd_T34 l ((P : Nat) : Int) := by unfold rd_T34; rw [Int.toNat_natCast]
    have hb1 := blk_below HBK.out S1.out
    simp only [Int.toNat_natCast] at c0 c1 c2 c3 c4
    try simp only [Int.toNat_natCast] at c5
    rw [Y, decide_eq_true hn, Bool.true_and] at eH
    clear Y
    generalize rd_T34 l ((P : Nat) : Int) = y at *
    by_cases hyx : y.f0 = id
    ·have hc : cm y.f0 id = 0 := (cm_eq _ _).2 hyx
     rw [decide_eq_true hyx] at eH
     subst eH
     have hc' := Aside0.mk hc
     clear hyx hc
     go_wp2_with (go_at_call 96; refine (cl_any y id b _ hb1).mono ?_; rintro e w' ⟨rfl, hb2⟩)
     go_ret2
     exact ⟨by rw [hc'.out]; rfl, below_then S1.out S1.out.size hb2⟩
    ·have hc : ¬ cm y.f0 id = 0 := fun h => hyx ((cm_eq _ _).1 h)
     rw [decide_eq_false hyx] at eH
     subst eH
     have hc' := Aside0.mk hc
     clear hyx hc
     go_wp2_with (go_at_call 96; refine (cl_any y id b _ hb1).mono ?_; rintro e w' ⟨rfl, hb2⟩)
     go_ret2
     exact ⟨by first | rfl | simp [hc'.out], below_then S1.out S1.out.size hb2⟩
   ·rw [decide_eq_false hn, Bool.false_and] at eH
    subst eH
    go_wp2
    go_ret2
    exact ⟨rfl, S1.out⟩
theorem find_any (A : Option Addr) (c : Nat) (l : List S34) (id : ByteArray) (w : World) (hC : Kd.C k34 w A l.length l) (hs : Asc l) (hl : l.length ≤ 2000000000000) :
 Calls Tryz.prog 71 #[.slice A l.length c, .func (.func 72) #[] #[], .string id] w fun e w' => e = .returned (.tuple #[.int .i64 (pos l id : Nat), .bool (has l id)]) ∧ Below w.heap.size w w' := by
 have HB := below_alloc (Below.refl w.heap.size w) (.cells #[.func (.func 72) #[] #[]] 79)
 have hb := blk_new w (.cells #[.func (.func 72) #[] #[]] 79)
 have hC1 := Kd.C_below hC HB
 go_enter Tryz.func71, Tryz.ntmps71
 go_wp2_with fail
 refine (bs_any A c l id _ _ hC1 hb hs hl).mono ?_; rintro e w1 ⟨rfl, hb1⟩
 go_wp2_with fail
 go_ret2
 exact ⟨rfl, below_then HB HB.size hb1⟩
end Go.Proofs.YtldlkbjbfgieeaaGreatDoor.FiN
