/- The document's names, cuts, parts. -/
import Derived.Test.YtldlkbjbfgieeaaGreatDoorRe
import Derived.Test.YtldlkbjbfgieeaaGreatDoorLa
import Derived.Test.YtldlkbjbfgieeaaGreatDoorRi
import Derived.Test.YtldlkbjbfgieeaaGreatDoorMo
namespace Go.Proofs.YtldlkbjbfgieeaaGreatDoor.Rn
set_option linter.unusedVariables false
set_option linter.unusedSimpArgs false
open Go.RowKit Go.Proofs.YtldlkbjbfgieeaaGreatDoorW.PrintWords Go.Proofs.YtldlkbjbfgieeaaGreatDoorW.PrintLast Mo Q Go.Proofs.YtldlkbjbfgieeaaGreatDoor.Nm Cb
open Go.Proofs.YtldlkbjbfgieeaaGreatDoor.Lb (cutS partsS comma)
theorem letter_all : ((List.range 256).all fun n => letters.contains (UInt8.ofNat n) == (decide (97 ≤ n) && decide (n ≤ 122) || decide (48 ≤ n) && decide (n ≤ 57))) = true := by decide +kernel
theorem letter_iff (b : UInt8) : letters.contains b = (decide (97 ≤ b.toNat) && decide (b.toNat ≤ 122) || decide (48 ≤ b.toNat) && decide (b.toNat ≤ 57)) := by
 have := List.all_eq_true.1 letter_all b.toNat (List.mem_range.2 b.toNat_lt)
 rw [UInt8.ofNat_toNat] at this
 exact beq_iff_eq.1 this
theorem take_all {l : List UInt8} {i : Nat} {b : UInt8} (hg : l[i]? = some b) (hc : letters.contains b = true) (h : (l.take i).all (letters.contains ·) = true) : (l.take (i + 1)).all (letters.contains ·) = true := by
 rw [List.take_add_one, hg, List.all_append, h]
 simp only [Option.toList_some, List.all_cons, List.all_nil, hc, Bool.and_true]
theorem not_all {l : List UInt8} {i : Nat} {b : UInt8} (hg : l[i]? = some b) (hc : letters.contains b = false) : l.all (letters.contains ·) = false := by
 rw [Bool.eq_false_iff]
 intro h
 have := List.all_eq_true.1 h b (List.mem_of_getElem? hg)
 rw [hc] at this
 cases this
set_option maxHeartbeats 4000000 in
theorem rname_any (s : ByteArray) (w : World) : Calls Tryz.prog 83 #[.string s] w fun e w' => e = .returned (.bool (nm s)) ∧ w = w' := by
 by_cases h1 : s.size < 1
 ·have c1 : decide ((s.size : Int) < 1) = true := decide_eq_true (by omega)
  have e : nm s = false := by unfold nm; rw [decide_eq_false (show ¬ 1 ≤ s.size by omega)]; rfl
  rw [e]
  go_enter Tryz.func83, Tryz.ntmps83
  go_wp2_with fail
  go_ret
  exact ⟨rfl, rfl⟩
 have c1 : decide ((s.size : Int) < 1) = false := decide_eq_false (by omega)
 by_cases h2 : 12 < s.size
 ·have c2 : decide ((12 : Int) < (s.size : Int)) = true := decide_eq_true (by omega)
  have e : nm s = false := by unfold nm; rw [decide_eq_false (show ¬ s.size ≤ 12 by omega)]; simp
  rw [e]
  go_enter Tryz.func83, Tryz.ntmps83
  go_wp2_with fail
  go_ret
  exact ⟨rfl, rfl⟩
 have c2 : decide ((12 : Int) < (s.size : Int)) = false := decide_eq_false (by omega)
 have hnm : nm s = s.data.toList.all (letters.contains ·) := by unfold nm; rw [decide_eq_true (show 1 ≤ s.size by omega), decide_eq_true (show s.size ≤ 12 by omega)]; rfl
 have hlen : s.data.toList.length = s.size := by rw [Array.length_toList]; rfl
 rw [hnm]
 obtain ⟨r, hr⟩ : ∃ r, r = s.data.toList.all (letters.contains ·) := ⟨_, rfl⟩
 rw [← hr]
 replace hr := Lib.hid hr
 clear hnm
 go_enter Tryz.func83, Tryz.ntmps83
 go_wp2_with fail
 go_loopg [3] s.size (fun kx s3 wr => ∃ i : Nat, s3 = .int .i64 (i : Int) ∧ i + kx = s.size ∧ (s.data.toList.take i).all (letters.contains ·) = true ∧ w = wr)
 case atStart => exact ⟨0, rfl, by omega, rfl, rfl⟩
 case round =>
  obtain ⟨i, rfl, hik, hall, rfl⟩ := hrel
  by_cases hi : i < s.size
  ·obtain ⟨m, rfl⟩ : ∃ m, gk = m + 1 := ⟨gk - 1, by omega⟩
   have d1 : decide ((i : Int) < (s.size : Int)) = true := decide_eq_true (by omega)
   have hb : letters.contains (s[i]'hi) = _ := letter_iff _
   have hg : s.data.toList[i]? = some (s[i]'hi) := by rw [List.getElem?_eq_getElem (by omega)]; rfl
   rcases (show ((s[i]'hi).toNat < 48) ∨ (48 ≤ (s[i]'hi).toNat ∧ (s[i]'hi).toNat ≤ 57) ∨ (57 < (s[i]'hi).toNat ∧ (s[i]'hi).toNat < 97) ∨ (97 ≤ (s[i]'hi).toNat ∧ (s[i]'hi).toNat ≤ 122) ∨ (122 < (s[i]'hi).toNat) from by omega) with q | q | q | q | q
   ·have f0 : decide ((97 : Int) ≤ ((s[i]'hi).toNat : Int)) = false := decide_eq_false (by omega)
    have f1 : decide (((s[i]'hi).toNat : Int) ≤ 122) = true := decide_eq_true (by omega)
    have f2 : decide ((48 : Int) ≤ ((s[i]'hi).toNat : Int)) = false := decide_eq_false (by omega)
    have f3 : decide (((s[i]'hi).toNat : Int) ≤ 57) = true := decide_eq_true (by omega)
    have hc : letters.contains (s[i]'hi) = false := by rw [hb, decide_eq_false (show ¬ 97 ≤ (s[i]'hi).toNat from by omega), decide_eq_true (show (s[i]'hi).toNat ≤ 122 from by omega), decide_eq_false (show ¬ 48 ≤ (s[i]'hi).toNat from by omega), decide_eq_true (show (s[i]'hi).toNat ≤ 57 from by omega)]; rfl
    replace hc := Lib.hid hc
    replace hg := Lib.hid hg
    clear hb
    go_wp2_with fail
    go_ret
    exact ⟨by rw [hr.out, not_all hg.out hc.out]; rfl, rfl⟩
   ·have f0 : decide ((97 : Int) ≤ ((s[i]'hi).toNat : Int)) = false := decide_eq_false (by omega)
    have f1 : decide (((s[i]'hi).toNat : Int) ≤ 122) = true := decide_eq_true (by omega)
    have f2 : decide ((48 : Int) ≤ ((s[i]'hi).toNat : Int)) = true := decide_eq_true (by omega)
    have f3 : decide (((s[i]'hi).toNat : Int) ≤ 57) = true := decide_eq_true (by omega)
    have hc : letters.contains (s[i]'hi) = true := by rw [hb, decide_eq_false (show ¬ 97 ≤ (s[i]'hi).toNat from by omega), decide_eq_true (show (s[i]'hi).toNat ≤ 122 from by omega), decide_eq_true (show 48 ≤ (s[i]'hi).toNat from by omega), decide_eq_true (show (s[i]'hi).toNat ≤ 57 from by omega)]; rfl
    replace hc := Lib.hid hc
    replace hg := Lib.hid hg
    clear hb
    go_wp2_with fail
    go_roundg m
    case measure => omega
    case rel => exact ⟨i + 1, by first | rfl | (simp; done), by omega, take_all hg.out hc.out hall, rfl⟩
   ·have f0 : decide ((97 : Int) ≤ ((s[i]'hi).toNat : Int)) = false := decide_eq_false (by omega)
    have f1 : decide (((s[i]'hi).toNat : Int) ≤ 122) = true := decide_eq_true (by omega)
    have f2 : decide ((48 : Int) ≤ ((s[i]'hi).toNat : Int)) = true := decide_eq_true (by omega)
    have f3 : decide (((s[i]'hi).toNat : Int) ≤ 57) = false := decide_eq_false (by omega)
    have hc : letters.contains (s[i]'hi) = false := by rw [hb, decide_eq_false (show ¬ 97 ≤ (s[i]'hi).toNat from by omega), decide_eq_true (show (s[i]'hi).toNat ≤ 122 from by omega), decide_eq_true (show 48 ≤ (s[i]'hi).toNat from by omega), decide_eq_false (show ¬ (s[i]'hi).toNat ≤ 57 from by omega)]; rfl
    replace hc := Lib.hid hc
    replace hg := Lib.hid hg
    clear hb
    go_wp2_with fail
    go_ret
    exact ⟨by rw [hr.out, not_all hg.out hc.out]; rfl, rfl⟩
   ·have f0 : decide ((97 : Int) ≤ ((s[i]'hi).toNat : Int)) = true := decide_eq_true (by omega)
    have f1 : decide (((s[i]'hi).toNat : Int) ≤ 122) = true := decide_eq_true (by omega)
    have f2 : decide ((48 : Int) ≤ ((s[i]'hi).toNat : Int)) = true := decide_eq_true (by omega)
    have f3 : decide (((s[i]'hi).toNat : Int) ≤ 57) = false := decide_eq_false (by omega)
    have hc : letters.contains (s[i]'hi) = true := by rw [hb, decide_eq_true (show 97 ≤ (s[i]'hi).toNat from by omega), decide_eq_true (show (s[i]'hi).toNat ≤ 122 from by omega), decide_eq_true (show 48 ≤ (s[i]'hi).toNat from by omega), decide_eq_false (show ¬ (s[i]'hi).toNat ≤ 57 from by omega)]; rfl
    replace hc := Lib.hid hc
    replace hg := Lib.hid hg
    clear hb
    go_wp2_with fail
    go_roundg m
    case measure => omega
    case rel => exact ⟨i + 1, by first | rfl | (simp; done), by omega, take_all hg.out hc.out hall, rfl⟩
   ·have f0 : decide ((97 : Int) ≤ ((s[i]'hi).toNat : Int)) = true := decide_eq_true (by omega)
    have f1 : decide (((s[i]'hi).toNat : Int) ≤ 122) = false := decide_eq_false (by omega)
    have f2 : decide ((48 : Int) ≤ ((s[i]'hi).toNat : Int)) = true := decide_eq_true (by omega)
    have f3 : decide (((s[i]'hi).toNat : Int) ≤ 57) = false := decide_eq_false (by omega)
    have hc : letters.contains (s[i]'hi) = false := by rw [hb, decide_eq_true (show 97 ≤ (s[i]'hi).toNat from by omega), decide_eq_false (show ¬ (s[i]'hi).toNat ≤ 122 from by omega), decide_eq_true (show 48 ≤ (s[i]'hi).toNat from by omega), decide_eq_false (show ¬ (s[i]'hi).toNat ≤ 57 from by omega)]; rfl
    replace hc := Lib.hid hc
    replace hg := Lib.hid hg
    clear hb
    go_wp2_with fail
    go_ret
    exact ⟨by rw [hr.out, not_all hg.out hc.out]; rfl, rfl⟩
  ·have d1 : decide ((i : Int) < (s.size : Int)) = false := decide_eq_false (by omega)
   rw [show i = s.size by omega, ← hlen, List.take_length] at hall
   go_wp2_with fail
   go_ret
   exact ⟨by rw [hr.out, hall]; rfl, rfl⟩
theorem split_tl {l : List UInt8} {i : Nat} {b : UInt8} (hg : l[i]? = some b) : l = l.take i ++ b :: l.drop (i + 1) := by
 obtain ⟨h, e⟩ := List.getElem?_eq_some_iff.1 hg
 rw [← e, ← List.drop_eq_getElem_cons h, List.take_append_drop]
set_option maxHeartbeats 4000000 in
theorem rcut_any (s : ByteArray) (w : World) (hs : s.size ≤ 9223372036854775000) : Calls Tryz.prog 127 #[.string s] w fun e w' => e = .returned (.tuple #[.string (cutS s).1, .string (cutS s).2.1, .bool (cutS s).2.2]) ∧ Below w.heap.size w w' := by
 have hlen : s.data.toList.length = s.size := by rw [Array.length_toList]; rfl
 obtain ⟨r, hr⟩ : ∃ r, r = cutS s := ⟨_, rfl⟩
 rw [← hr]
 replace hr := Lib.hid hr
 go_enter Tryz.func127, Tryz.ntmps127
 go_wp2_with fail
 go_loopg [5] s.size (fun kx s5 wr => ∃ i : Nat, s5 = .int .i64 (i : Int) ∧ i + kx = s.size ∧ 61 ∉ s.data.toList.take i ∧ Aside0 (Below w.heap.size w wr))
 case atStart => exact ⟨0, rfl, by omega, by simp, Aside0.mk (Below.refl _ _)⟩
 case round =>
  obtain ⟨i, rfl, hik, hno, hB⟩ := hrel
  replace hno := Lib.hid hno
  by_cases hi : i < s.size
  ·obtain ⟨m, rfl⟩ : ∃ m, gk = m + 1 := ⟨gk - 1, by omega⟩
   have d1 : decide ((i : Int) < (s.size : Int)) = true := decide_eq_true (by omega)
   have hg : s.data.toList[i]? = some (s[i]'hi) := by rw [List.getElem?_eq_getElem (by omega)]; rfl
   replace hg := Lib.hid hg
   by_cases q : s[i]'hi = 61
   ·have f0 : (((s[i]'hi).toNat : Int) == 61) = true := by rw [q]; rfl
    have hx := Lib.hid (show Lib.indexByte s.data.toList 61 = (i : Int) from by
     rw [split_tl hg.out, q, La.ib_app 61 _ _ hno.out, List.length_take, hlen]; omega)
    have w1 : wrap64 ((i : Int) + 1) = ((i + 1 : Nat) : Int) := by unfold wrap64; omega
    have k1 : (i ≤ s.size) = True := eq_true (by omega)
    have k2 : (0 ≤ wrap64 ((i : Int) + 1)) = True := eq_true (by omega)
    have k3 : (wrap64 ((i : Int) + 1) ≤ (s.size : Int)) = True := eq_true (by omega)
    have hw := Lib.hid (show (wrap64 ((i : Int) + 1)).toNat = i + 1 from by omega)
    clear w1
    go_wp2_with fail
    refine start_ (n := 10) (S := fun w' => True) (ds := []) #[false, false, false, false, false, false, false, false, false, false] (by kernel_rfl) rfl (by kernel_rfl) trivial (fun hHeld => ?_)
    refine pure_ (i := 0) (N := some 16) (v := ?_) (a' := ?_) #[true, false, false, false, false, false, false, false, false, false] rfl rfl (by kernel_rfl) (fun _ _ _ h => h) (Or.inl ⟨by rfl, ?_⟩) ?_ ?_; rotate_left; (·intro w'; go_simp; with_reducible rfl); rotate_left; (·simp only [Act.put, List.setIfInBounds_toArray, List.set_cons_zero, List.set_cons_succ, i64_w, i32_w, Nat.reduceAdd]; rfl)
    refine pure_ (i := 1) (N := some 17) (v := ?_) (a' := ?_) #[true, true, false, false, false, false, false, false, false, false] rfl rfl (by kernel_rfl) (fun _ _ _ h => h) (Or.inl ⟨by rfl, ?_⟩) ?_ ?_; rotate_left; (·intro w'; go_simp; with_reducible rfl); rotate_left; (·simp only [Act.put, List.setIfInBounds_toArray, List.set_cons_zero, List.set_cons_succ, i64_w, i32_w, Nat.reduceAdd]; rfl)
    refine pure_ (i := 2) (N := some 18) (v := ?_) (a' := ?_) #[true, true, true, false, false, false, false, false, false, false] rfl rfl (by kernel_rfl) (fun _ _ _ h => h) (Or.inl ⟨by rfl, ?_⟩) ?_ ?_; rotate_left; (·intro w'; go_simp; with_reducible rfl); rotate_left; (·simp only [Act.put, List.setIfInBounds_toArray, List.set_cons_zero, List.set_cons_succ, i64_w, i32_w, Nat.reduceAdd]; rfl)
    refine pure_ (i := 3) (N := some 19) (v := ?_) (a' := ?_) #[true, true, true, true, false, false, false, false, false, false] rfl rfl (by kernel_rfl) (fun _ _ _ h => h) (Or.inl ⟨by rfl, ?_⟩) ?_ ?_; rotate_left; (·intro w'; go_simp; with_reducible rfl); rotate_left; (·simp only [Act.put, List.setIfInBounds_toArray, List.set_cons_zero, List.set_cons_succ, i64_w, i32_w, Nat.reduceAdd]; rfl)
    refine pure_ (i := 4) (N := some 20) (v := ?_) (a' := ?_) #[true, true, true, true, true, false, false, false, false, false] rfl rfl (by kernel_rfl) (fun _ _ _ h => h) (Or.inl ⟨by rfl, ?_⟩) ?_ ?_; rotate_left; (·intro w'; go_simp; with_reducible rfl); rotate_left; (·simp only [Act.put, List.setIfInBounds_toArray, List.set_cons_zero, List.set_cons_succ, i64_w, i32_w, Nat.reduceAdd]; rfl)
    refine pure_ (i := 5) (N := some 21) (v := ?_) (a' := ?_) #[true, true, true, true, true, true, false, false, false, false] rfl rfl (by kernel_rfl) (fun _ _ _ h => h) (Or.inl ⟨by rfl, ?_⟩) ?_ ?_; rotate_left; (·intro w'; go_simp; with_reducible rfl); rotate_left; (·simp only [Act.put, List.setIfInBounds_toArray, List.set_cons_zero, List.set_cons_succ, i64_w, i32_w, Nat.reduceAdd]; rfl)
    refine pure_ (i := 6) (N := some 22) (v := ?_) (a' := ?_) #[true, true, true, true, true, true, true, false, false, false] rfl rfl (by kernel_rfl) (fun _ _ _ h => h) (Or.inl ⟨by rfl, ?_⟩) ?_ ?_; rotate_left; (·intro w'; go_simp; with_reducible rfl); rotate_left; (·simp only [Act.put, List.setIfInBounds_toArray, List.set_cons_zero, List.set_cons_succ, i64_w, i32_w, Nat.reduceAdd]; rfl)
    refine pure_ (i := 7) (N := some 2) (v := ?_) (a' := ?_) #[true, true, true, true, true, true, true, true, false, false] rfl rfl (by kernel_rfl) (fun _ _ _ h => h) (Or.inl ⟨by rfl, ?_⟩) ?_ ?_; rotate_left; (·intro w'; go_simp; with_reducible rfl); rotate_left; (·simp only [Act.put, List.setIfInBounds_toArray, List.set_cons_zero, List.set_cons_succ, i64_w, i32_w, Nat.reduceAdd]; rfl)
    refine pure_ (i := 8) (N := some 3) (v := ?_) (a' := ?_) #[true, true, true, true, true, true, true, true, true, false] rfl rfl (by kernel_rfl) (fun _ _ _ h => h) (Or.inl ⟨by rfl, ?_⟩) ?_ ?_; rotate_left; (·intro w'; go_simp; with_reducible rfl); rotate_left; (·simp only [Act.put, List.setIfInBounds_toArray, List.set_cons_zero, List.set_cons_succ, i64_w, i32_w, Nat.reduceAdd]; rfl)
    refine pure_ (i := 9) (N := some 4) (v := ?_) (a' := ?_) #[true, true, true, true, true, true, true, true, true, true] rfl rfl (by kernel_rfl) (fun _ _ _ h => h) (Or.inl ⟨by rfl, ?_⟩) ?_ ?_; rotate_left; (·intro w'; go_simp; with_reducible rfl); rotate_left; (·simp only [Act.put, List.setIfInBounds_toArray, List.set_cons_zero, List.set_cons_succ, i64_w, i32_w, Nat.reduceAdd]; rfl)
    refine done_ (by kernel_rfl) ?_
    go_wp2_with fail
    go_ret3
    exact ⟨by rw [hr.out]; unfold cutS; rw [if_neg (by rw [hx.out]; omega), hx.out, Int.toNat_natCast, ← hw.out]; rfl, below_then hB.out hB.out.size (below_drew (Below.refl _ _))⟩
   ·have f0 : (((s[i]'hi).toNat : Int) == 61) = false := beq_eq_false_iff_ne.mpr (fun h => q (UInt8.toNat_inj.1 (by have : (61 : UInt8).toNat = 61 := rfl; omega)))
    go_wp2_with fail
    go_roundg m
    case measure => omega
    case rel => exact ⟨i + 1, by first | rfl | (simp; done), by omega, by
     rw [List.take_add_one, hg.out]
     simp only [Option.toList_some, List.mem_append, List.mem_singleton]
     rintro (h | h)
     ·exact hno.out h
     ·exact q h.symm, hB⟩
  ·have d1 : decide ((i : Int) < (s.size : Int)) = false := decide_eq_false (by omega)
   have hx := Lib.hid (show Lib.indexByte s.data.toList 61 = -1 from La.ib_none 61 _ (by have := hno.out; rw [show i = s.data.toList.length by omega, List.take_length] at this; exact this))
   go_wp2_with fail
   go_ret3
   exact ⟨by rw [hr.out]; unfold cutS; rw [if_pos hx.out]; rfl, hB.out⟩
open Go.Proofs.YtldlkbjbfgieeaaGreatDoor.Lb (noTerm rawS readS sufS preS trimS anyB)
theorem results_tmp5 {fn : Func} {a b c d e : Tmp} (h : fn.results = #[.tmp a, .tmp b, .tmp c, .tmp d, .tmp e]) (tmps : Array Value) (P : Program) (w : World) :
 (results fn tmps).run P w = .ok (.tuple #[tmps.getD a undef, tmps.getD b undef, tmps.getD c undef, tmps.getD d undef, tmps.getD e undef]) w := by
 simp [results, h]
theorem noTerm_eq (s : ByteArray) : noTerm s = !(nm (rawS s).2.1 && nm (rawS s).2.2) := by
 have h0 : (rawS s).1 ≠ 0 := by unfold rawS; cases (cutS s).2.2 <;> cases sufS (cutS s).1 <;> cases preS (cutS s).1 <;> simp
 unfold noTerm readS
 by_cases h : nm (rawS s).2.1 = true ∧ nm (rawS s).2.2 = true
 ·rw [if_pos h, h.1, h.2, decide_eq_false h0]; rfl
 ·rw [if_neg h]
  cases h1 : nm (rawS s).2.1 <;> cases h2 : nm (rawS s).2.2 <;> first | rfl | exact absurd ⟨h1, h2⟩ h
theorem any_nm : nm anyB = true := by decide +kernel
theorem pre_nil {s : ByteArray} (h : s.size = 0) : preS s = false := by
 cases q : preS s with
 | false => rfl
 | true => have := Lb.pre_pos q; omega
theorem pre_of {s : ByteArray} (h : 0 < s.size) : preS s = decide (s[0]'h = 33) := by
 obtain ⟨⟨l⟩⟩ := s
 cases l with
 | nil => exact absurd h (by decide)
 | cons a t =>
  show ((33 : UInt8) == a && true) = decide (a = 33)
  rw [Bool.and_true]
  by_cases q : a = 33
  ·rw [q]; rfl
  ·rw [decide_eq_false q]; exact beq_eq_false_iff_ne.mpr (fun z => q z.symm)
theorem suf_nil {s : ByteArray} (h : s.size = 0) : sufS s = false := by
 unfold sufS
 rw [← Lib.hasSuffix_of_drop, show s.data.toList = [] from List.eq_nil_of_length_eq_zero (by rw [Array.length_toList]; exact h)]; rfl
theorem suf_of {s : ByteArray} (h : 0 < s.size) : sufS s = decide (s[s.size - 1]'(by omega) = 33) := by
 have hlen : s.data.toList.length = s.size := by rw [Array.length_toList]; rfl
 unfold sufS
 rw [← Lib.hasSuffix_of_drop, decide_eq_true (show ([33] : List UInt8).length ≤ s.data.toList.length by rw [hlen]; exact h), hlen, Bool.true_and]
 have hd : s.data.toList.drop (s.size - 1) = [s[s.size - 1]'(by omega)] := by
  rw [List.drop_eq_getElem_cons (by omega), List.drop_eq_nil_of_le (by omega)]; rfl
 show (s.data.toList.drop (s.size - 1) == [33]) = _
 rw [hd]
 by_cases q : s[s.size - 1]'(by omega) = 33
 ·rw [q]; rfl
 ·rw [decide_eq_false q]
  exact beq_eq_false_iff_ne.mpr (fun z => q (List.cons.inj z).1)
theorem trim_of {s : ByteArray} (h : sufS s = true) : trimS s = s.extract 0 (s.size - 1) := by
 have hlen : s.data.toList.length = s.size := by rw [Array.length_toList]; rfl
 unfold trimS Lib.trimSuffix
 rw [if_pos (show Lib.hasSuffix s.data.toList [33] = true from h)]
 apply ByteArray.ext
 apply Array.toList_inj.1
 rw [La.ext_tl, hlen]
 rfl
set_option maxHeartbeats 4000000 in
theorem rterm_any (s : ByteArray) (w : World) (hs : s.size ≤ 9223372036854775000) : Calls Tryz.prog 126 #[.string s] w fun e w' => (∃ a b c d, e = .returned (.tuple #[a, b, c, d, .bool (!noTerm s)])) ∧ Below w.heap.size w w' := by
 have hC := rcut_any s w hs
 have hks := Lb.cut_size s
 have hNt := noTerm_eq s
 obtain ⟨r, hr⟩ : ∃ r, r = !noTerm s := ⟨_, rfl⟩
 rw [← hr]
 have fin : ∀ {b : Bool}, (nm (rawS s).2.1 && nm (rawS s).2.2) = b → r = b := fun h => by rw [hr, hNt, h, Bool.not_not]
 by_cases hx : Lib.indexByte s.data.toList 61 = -1
 ·have hcs : cutS s = (s, ByteArray.empty, false) := by unfold cutS; rw [if_pos hx]
  unfold rawS at fin
  rw [hcs] at hC fin
  rw [if_neg Bool.false_ne_true] at fin
  clear hcs hx hr hNt hks
  simp only at hC fin
  have hem : (ByteArray.empty : ByteArray) = ⟨#[]⟩ := rfl
  rw [hem] at hC
  clear hem
  by_cases h0 : s.size = 0
  ·have c1 : decide ((0 : Int) < (s.size : Int)) = false := decide_eq_false (by omega)
   rw [pre_nil h0, if_neg Bool.false_ne_true] at fin
   cases hn : nm s with
   | true =>
    have hN := Lib.hid (fin (b := true) (by rw [hn, any_nm]; rfl))
    go_enter Tryz.func126, Tryz.ntmps126
    go_wp2_with (first | (go_at_call 127; refine hC.mono ?_; rintro e w1 ⟨rfl, hb1⟩) | (go_at_call 83; refine (rname_any _ _).mono ?_; rintro e w2 ⟨rfl, rfl⟩))
    (try simp only [Exit.inBlock, Exit.then]); refine bodyPost_ret (results_tmp5 rfl _ _ _) rfl ?_
    exact ⟨⟨_, _, _, _, by rw [hN.out]; rfl⟩, hb1⟩
   | false =>
    have hN := Lib.hid (fin (b := false) (by rw [hn]; rfl))
    go_enter Tryz.func126, Tryz.ntmps126
    go_wp2_with (first | (go_at_call 127; refine hC.mono ?_; rintro e w1 ⟨rfl, hb1⟩) | (go_at_call 83; refine (rname_any _ _).mono ?_; rintro e w2 ⟨rfl, rfl⟩))
    (try simp only [Exit.inBlock, Exit.then]); refine bodyPost_ret (results_tmp5 rfl _ _ _) rfl ?_
    exact ⟨⟨_, _, _, _, by rw [hN.out]; rfl⟩, hb1⟩
  ·have c1 : decide ((0 : Int) < (s.size : Int)) = true := decide_eq_true (by omega)
   have hp : 0 < s.size := by omega
   rw [pre_of hp] at fin
   by_cases q : s[0]'hp = 33
   ·have f0 : (((s[0]'hp).toNat : Int) == 33) = true := by rw [q]; rfl
    have k1 : (1 ≤ s.size) = True := eq_true (by omega)
    rw [decide_eq_true q, if_pos rfl] at fin
    cases hn : nm (s.extract 1 s.size) with
    | true =>
     have hN := Lib.hid (fin (b := true) (by rw [hn, any_nm]; rfl))
     go_enter Tryz.func126, Tryz.ntmps126
     go_wp2_with (first | (go_at_call 127; refine hC.mono ?_; rintro e w1 ⟨rfl, hb1⟩) | (go_at_call 83; refine (rname_any _ _).mono ?_; rintro e w2 ⟨rfl, rfl⟩))
     (try simp only [Exit.inBlock, Exit.then]); refine bodyPost_ret (results_tmp5 rfl _ _ _) rfl ?_
     exact ⟨⟨_, _, _, _, by rw [hN.out]; rfl⟩, hb1⟩
    | false =>
     have hN := Lib.hid (fin (b := false) (by rw [hn]; rfl))
     go_enter Tryz.func126, Tryz.ntmps126
     go_wp2_with (first | (go_at_call 127; refine hC.mono ?_; rintro e w1 ⟨rfl, hb1⟩) | (go_at_call 83; refine (rname_any _ _).mono ?_; rintro e w2 ⟨rfl, rfl⟩))
     (try simp only [Exit.inBlock, Exit.then]); refine bodyPost_ret (results_tmp5 rfl _ _ _) rfl ?_
     exact ⟨⟨_, _, _, _, by rw [hN.out]; rfl⟩, hb1⟩
   ·have f0 : (((s[0]'hp).toNat : Int) == 33) = false := beq_eq_false_iff_ne.mpr (fun h => q (UInt8.toNat_inj.1 (by have : (33 : UInt8).toNat = 33 := rfl; omega)))
    rw [decide_eq_false q, if_neg Bool.false_ne_true] at fin
    cases hn : nm s with
    | true =>
     have hN := Lib.hid (fin (b := true) (by rw [hn, any_nm]; rfl))
     go_enter Tryz.func126, Tryz.ntmps126
     go_wp2_with (first | (go_at_call 127; refine hC.mono ?_; rintro e w1 ⟨rfl, hb1⟩) | (go_at_call 83; refine (rname_any _ _).mono ?_; rintro e w2 ⟨rfl, rfl⟩))
     (try simp only [Exit.inBlock, Exit.then]); refine bodyPost_ret (results_tmp5 rfl _ _ _) rfl ?_
     exact ⟨⟨_, _, _, _, by rw [hN.out]; rfl⟩, hb1⟩
    | false =>
     have hN := Lib.hid (fin (b := false) (by rw [hn]; rfl))
     go_enter Tryz.func126, Tryz.ntmps126
     go_wp2_with (first | (go_at_call 127; refine hC.mono ?_; rintro e w1 ⟨rfl, hb1⟩) | (go_at_call 83; refine (rname_any _ _).mono ?_; rintro e w2 ⟨rfl, rfl⟩))
     (try simp only [Exit.inBlock, Exit.then]); refine bodyPost_ret (results_tmp5 rfl _ _ _) rfl ?_
     exact ⟨⟨_, _, _, _, by rw [hN.out]; rfl⟩, hb1⟩
 ·have hcs : (cutS s).2.2 = true := by unfold cutS; rw [if_neg hx]
  unfold rawS at fin
  rw [if_pos hcs] at fin
  rw [hcs] at hC
  clear hcs hx hr hNt
  generalize (cutS s).1 = k at *
  generalize (cutS s).2.1 = v at *
  by_cases h0 : k.size = 0
  ·have c1 : decide ((0 : Int) < (k.size : Int)) = false := decide_eq_false (by omega)
   rw [suf_nil h0, if_neg Bool.false_ne_true] at fin
   cases hn : nm k <;> cases hv : nm v
   all_goals
    have hN := Lib.hid (fin (by rw [hn, hv]))
    go_enter Tryz.func126, Tryz.ntmps126
    go_wp2_with (first | (go_at_call 127; refine hC.mono ?_; rintro e w1 ⟨rfl, hb1⟩) | (go_at_call 83; refine (rname_any _ _).mono ?_; rintro e w2 ⟨rfl, rfl⟩))
    (try simp only [Exit.inBlock, Exit.then]); refine bodyPost_ret (results_tmp5 rfl _ _ _) rfl ?_
    exact ⟨⟨_, _, _, _, by rw [hN.out]; rfl⟩, hb1⟩
  ·have c1 : decide ((0 : Int) < (k.size : Int)) = true := decide_eq_true (by omega)
   have hp : 0 < k.size := by omega
   rw [suf_of hp] at fin
   have w1 : wrap64 ((k.size : Int) - 1) = ((k.size - 1 : Nat) : Int) := by unfold wrap64; omega
   have j1 : (0 ≤ wrap64 ((k.size : Int) - 1)) = True := eq_true (by omega)
   have j2 : (wrap64 ((k.size : Int) - 1) < (k.size : Int)) = True := eq_true (by omega)
   have j3 : (wrap64 ((k.size : Int) - 1) ≤ (k.size : Int)) = True := eq_true (by omega)
   by_cases q : k[k.size - 1]'(by omega) = 33
   ·have f0 : (((k[k.size - 1]'(by omega)).toNat : Int) == 33) = true := by rw [q]; rfl
    rw [decide_eq_true q, if_pos rfl, trim_of (by rw [suf_of hp]; exact decide_eq_true q)] at fin
    cases hn : nm (k.extract 0 (k.size - 1)) <;> cases hv : nm v
    all_goals
     clear q w1
     have hN := Lib.hid (fin (by rw [hn, hv]))
     go_enter Tryz.func126, Tryz.ntmps126
     go_wp2_with (first | (go_at_call 127; refine hC.mono ?_; rintro e w1 ⟨rfl, hb1⟩) | (go_at_call 83; refine (rname_any _ _).mono ?_; rintro e w2 ⟨rfl, rfl⟩))
     (try simp only [Exit.inBlock, Exit.then]); refine bodyPost_ret (results_tmp5 rfl _ _ _) rfl ?_
     exact ⟨⟨_, _, _, _, by rw [hN.out]; rfl⟩, hb1⟩
   ·have f0 : (((k[k.size - 1]'(by omega)).toNat : Int) == 33) = false := beq_eq_false_iff_ne.mpr (fun h => q (UInt8.toNat_inj.1 (by have : (33 : UInt8).toNat = 33 := rfl; omega)))
    rw [decide_eq_false q, if_neg Bool.false_ne_true] at fin
    cases hn : nm k <;> cases hv : nm v
    all_goals
     clear q w1
     have hN := Lib.hid (fin (by rw [hn, hv]))
     go_enter Tryz.func126, Tryz.ntmps126
     go_wp2_with (first | (go_at_call 127; refine hC.mono ?_; rintro e w1 ⟨rfl, hb1⟩) | (go_at_call 83; refine (rname_any _ _).mono ?_; rintro e w2 ⟨rfl, rfl⟩))
     (try simp only [Exit.inBlock, Exit.then]); refine bodyPost_ret (results_tmp5 rfl _ _ _) rfl ?_
     exact ⟨⟨_, _, _, _, by rw [hN.out]; rfl⟩, hb1⟩
end Go.Proofs.YtldlkbjbfgieeaaGreatDoor.Rn
namespace Go.Proofs.YtldlkbjbfgieeaaGreatDoor.Rl
set_option linter.unusedVariables false
set_option linter.unusedSimpArgs false
open Go.RowKit Go.Proofs.YtldlkbjbfgieeaaGreatDoorW.PrintWords Go.Proofs.YtldlkbjbfgieeaaGreatDoorW.PrintLast Mo Q Go.Proofs.YtldlkbjbfgieeaaGreatDoor.Nm Cb La Rn
open Go.Proofs.YtldlkbjbfgieeaaGreatDoor.Lb (cutS partsS comma noTerm selS)
def jt (L : List ByteArray) : List UInt8 := L.flatMap fun p => p.data.toList ++ [44]
theorem jf_tl : ∀ (L : List ByteArray) (t : ByteArray), (jf (L ++ [t])).data.toList = jt L ++ t.data.toList
 | [], t => rfl
 | [p], t => by
   show (p ++ comma ++ t).data.toList = (p.data.toList ++ [44] ++ []) ++ t.data.toList
   rw [tl_app]; simp
 | p :: q :: l, t => by
   have ih := jf_tl (q :: l) t
   show (p ++ comma ++ jf (q :: l ++ [t])).data.toList = (p.data.toList ++ [44] ++ jt (q :: l)) ++ t.data.toList
   rw [tl_app, ih]; simp
theorem ext_bytes {s : ByteArray} {f i : Nat} : (s.extract f i).data.toList = (s.data.toList.drop f).take (i - f) := ext_tl s f i
theorem no_next {l : List UInt8} {f i : Nat} {b : UInt8} (hfi : f ≤ i) (hg : l[i]? = some b) (q : ¬ b = 44) (h : 44 ∉ (l.drop f).take (i - f)) : 44 ∉ (l.drop f).take (i + 1 - f) := by
 rw [show i + 1 - f = (i - f) + 1 by omega, List.take_add_one, List.getElem?_drop, show f + (i - f) = i by omega, hg]
 simp only [Option.toList_some, List.mem_append, List.mem_singleton]
 rintro (z | z)
 ·exact h z
 ·exact q z.symm
theorem jt_next {l : List UInt8} {L : List ByteArray} {p : ByteArray} {f i : Nat} (h : jt L = l.take f) (hfi : f ≤ i) (hg : l[i]? = some 44) (hp : p.data.toList = (l.drop f).take (i - f)) : jt (L ++ [p]) = l.take (i + 1) := by
 have e : l.take i = l.take f ++ (l.drop f).take (i - f) := by rw [← List.take_add, show f + (i - f) = i by omega]
 rw [List.take_add_one, hg, e]
 unfold jt at h ⊢
 rw [List.flatMap_append, h, List.flatMap_singleton, hp]
 simp
theorem no_more {L : List ByteArray} {p : ByteArray} (h : ∀ p ∈ L, 44 ∉ p.data.toList) (hp : 44 ∉ p.data.toList) : ∀ q ∈ L ++ [p], 44 ∉ q.data.toList := fun q hq => by
 rcases List.mem_append.1 hq with hq | hq
 ·exact h q hq
 ·rw [List.mem_singleton.1 hq]; exact hp
set_option maxHeartbeats 4000000 in
set_option maxRecDepth 100000 in
theorem rsplit_any (s : ByteArray) (w : World) (hs : s.size < 4294967281) : Calls Tryz.prog 125 #[.string s] w fun e w' => ∃ v L, e = .returned v ∧ Kd.string.R 9 w' w.heap.size (fun _ => True) v L ∧ Below w.heap.size w w' ∧ L ≠ [] ∧ jf L = s ∧ L.length ≤ s.size + 1 ∧ ∀ p ∈ L, 44 ∉ p.data.toList := by
 have hlen : s.data.toList.length = s.size := by rw [Array.length_toList]; rfl
 go_enter Tryz.func125, Tryz.ntmps125
 go_wp2_with fail
 go_loopg [3, 4, 5] s.size (fun kx v3 v4 v5 wr => ∃ (V : Value) (i f : Nat) (L : List ByteArray), v3 = V ∧ v4 = .int .i64 (f : Int) ∧ v5 = .int .i64 (i : Int) ∧ i + kx = s.size ∧ f ≤ i ∧ L.length ≤ f ∧ Aside0 (jt L = s.data.toList.take f) ∧ Aside0 (∀ p ∈ L, 44 ∉ p.data.toList) ∧ Aside0 (44 ∉ (s.data.toList.drop f).take (i - f)) ∧ Aside0 (Kd.string.R 9 wr w.heap.size (fun _ => True) V L) ∧ Aside0 (Below w.heap.size w wr))
 case atStart => exact ⟨_, 0, 0, [], rfl, rfl, rfl, by omega, Nat.le_refl _, Nat.le_refl _, Aside0.mk rfl, Aside0.mk (fun p h => by cases h), Aside0.mk (by simp), Aside0.mk (Kd.R_nil _ _ _ _ _), Aside0.mk (Below.refl _ _)⟩
 case round =>
  obtain ⟨V, i, f, L, rfl, rfl, rfl, hik, hfi, hLf, hJ, hP, hN, hR, hB⟩ := hrel
  by_cases hi : i < s.size
  ·obtain ⟨m, rfl⟩ : ∃ m, gk = m + 1 := ⟨gk - 1, by omega⟩
   have d1 : decide ((i : Int) < (s.size : Int)) = true := decide_eq_true (by omega)
   have hg : s.data.toList[i]? = some (s[i]'hi) := by rw [List.getElem?_eq_getElem (by omega)]; rfl
   replace hg := Lib.hid hg
   by_cases q : s[i]'hi = 44
   ·have f0 : (((s[i]'hi).toNat : Int) == 44) = true := by rw [q]; rfl
    have k1 : (i ≤ s.size) = True := eq_true (by omega)
    have k2 : (f ≤ i) = True := eq_true (by omega)
    go_wp2_with (first | ((with_reducible refine gate_builtin (b := .append) (xs := #[.tmp 16, .tmp 21]) rfl ?_); at_builtin; refine Kd.R_append Kd.string (w0 := w) w.heap.size rfl (.tmp 16) (.tmp 21) 110 9 (.string ⟨#[]⟩) 16 rfl Tryz.underlying110 info9 rfl (by decide) (by omega) _ L (s.extract f i) [.string (s.extract f i)] (fun _ => True) (fun _ => False) rfl rfl ?aP (fun _ hk => hk.elim) ?aF ?aO ?aB ?aS ?aL ?_; (case aP => exact rfl); (case aB => exact hB.out); (case aF => exact (fun _ _ => trivial)); (case aO => exact hR.out); (case aS => exact hB.out.size); (case aL => omega); intro v307 w10 ho hb hg' hat; have hR1 := Aside0.mk ho; have hB1 := Aside0.mk hb))
    go_roundg m
    case measure => omega
    case rel => exact ⟨_, i + 1, i + 1, L ++ [s.extract f i], rfl, by first | rfl | (simp; done), by first | rfl | (simp; done), by omega, Nat.le_refl _, by rw [List.length_append, List.length_singleton]; omega, Aside0.mk (jt_next hJ.out hfi (q ▸ hg.out) ext_bytes), Aside0.mk (no_more hP.out (by rw [ext_bytes]; exact hN.out)), Aside0.mk (by simp), hR1, hB1⟩
   ·have f0 : (((s[i]'hi).toNat : Int) == 44) = false := beq_eq_false_iff_ne.mpr (fun h => q (UInt8.toNat_inj.1 (by have : (44 : UInt8).toNat = 44 := rfl; omega)))
    go_wp2_with fail
    go_roundg m
    case measure => omega
    case rel => exact ⟨_, i + 1, f, L, rfl, rfl, by first | rfl | (simp; done), by omega, by omega, hLf, hJ, hP, Aside0.mk (no_next hfi hg.out q hN.out), hR, hB⟩
  ·have d1 : decide ((i : Int) < (s.size : Int)) = false := decide_eq_false (by omega)
   obtain rfl : i = s.size := by omega
   have k2 : (f ≤ s.size) = True := eq_true (by omega)
   go_wp2_with (first | ((with_reducible refine gate_builtin (b := .append) (xs := #[.tmp 25, .tmp 29]) rfl ?_); at_builtin; refine Kd.R_append Kd.string (w0 := w) w.heap.size rfl (.tmp 25) (.tmp 29) 110 9 (.string ⟨#[]⟩) 16 rfl Tryz.underlying110 info9 rfl (by decide) (by omega) _ L (s.extract f s.size) [.string (s.extract f s.size)] (fun _ => True) (fun _ => False) rfl rfl ?aP (fun _ hk => hk.elim) ?aF ?aO ?aB ?aS ?aL ?_; (case aP => exact rfl); (case aB => exact hB.out); (case aF => exact (fun _ _ => trivial)); (case aO => exact hR.out); (case aS => exact hB.out.size); (case aL => omega); intro v307 w10 ho hb hg' hat; have hR1 := Aside0.mk ho; have hB1 := Aside0.mk hb))
   go_ret
   refine ⟨_, _, rfl, hR1.out, hB1.out, by simp, ?_, by rw [List.length_append, List.length_singleton]; omega, no_more hP.out (by rw [ext_bytes]; exact hN.out)⟩
   apply ByteArray.ext
   apply Array.toList_inj.1
   rw [jf_tl, hJ.out, ext_bytes, ← hlen, List.take_of_length_le (l := s.data.toList.drop f) (by rw [List.length_drop]; exact Nat.le_refl _), List.take_append_drop]
theorem parts_of {s : ByteArray} {L : List ByteArray} (h0 : s.size ≠ 0) (h1 : L ≠ []) (h2 : jf L = s) (h3 : ∀ p ∈ L, 44 ∉ p.data.toList) : L = partsS s := by
 unfold partsS
 rw [if_neg h0, ← h2]
 exact (split_jf L h1 h3).symm
theorem emp_yes {b : ByteArray} (h : b.size = 0) : b.toList.isEmpty = true := by
 rw [ByteArray.toList_eq, show b.data.toList = [] from List.eq_nil_of_length_eq_zero (by rw [Array.length_toList]; exact h)]; rfl
theorem emp_no {b : ByteArray} (h : b.size ≠ 0) : b.toList.isEmpty = false := by
 rw [ByteArray.toList_eq]
 cases q : b.data.toList with
 | cons => rfl
 | nil => exact absurd (by rw [← Array.length_toList (xs := b.data), q]; rfl : b.data.size = 0) h
theorem rsplit_parts (s : ByteArray) (w : World) (hs : s.size < 4294967281) (h0 : s.size ≠ 0) : Calls Tryz.prog 125 #[.string s] w fun e w' => ∃ A c, e = .returned (.slice A (partsS s).length c) ∧ Kd.string.C w' A (partsS s).length (partsS s) ∧ Below w.heap.size w w' := by
 refine (rsplit_any s w hs).mono ?_
 rintro e w1 ⟨v, L, rfl, hR, hb, h1, h2, _, h3⟩
 obtain rfl := parts_of h0 h1 h2 h3
 obtain ⟨A, c, rfl⟩ := Kd.R_slice hR
 exact ⟨A, c, rfl, (Kd.R_reads' hR).2.2, hb⟩
set_option maxHeartbeats 4000000 in
theorem rsel_any (s : ByteArray) (w : World) (hs : s.size < 4294967281) : Calls Tryz.prog 104 #[.string s] w fun e w' => e = .returned (.bool (selS s)) ∧ Below w.heap.size w w' := by
 by_cases h0 : s.size = 0
 ·have e0 := emp_yes h0
  have e : selS s = true := by unfold selS partsS; rw [if_pos h0]; rfl
  rw [e]
  go_enter Tryz.func104, Tryz.ntmps104
  go_wp2_with fail
  go_ret
  exact ⟨rfl, Below.refl _ _⟩
 have e0 := emp_no h0
 have hP := rsplit_parts s w hs h0
 have hps : ∀ p ∈ partsS s, p.size < 4294967281 := fun p hp => by have := Lb.parts_size hp; omega
 have hpl := Lb.parts_len s
 obtain ⟨r, hr⟩ : ∃ r, r = selS s := ⟨_, rfl⟩
 rw [← hr]
 unfold selS at hr
 replace hr := Lib.hid hr
 generalize partsS s = l at *
 have HP := Aside0.mk hps
 clear hps
 go_enter Tryz.func104, Tryz.ntmps104
 go_wp2_with (go_at_call 125; refine hP.mono ?_; rintro e w1 ⟨A, c, rfl, hC, hb⟩; have HC := Aside0.mk hC; have HB := Aside0.mk hb; clear hC hb)
 go_loopg [4] l.length (fun kx s4 wr => ∃ i : Nat, s4 = .int .i64 i ∧ i ≤ l.length ∧ l.length - i ≤ kx ∧ Aside0 (Below w1.heap.size w1 wr) ∧ Aside0 ((l.take i).any noTerm = false))
 case atStart => exact ⟨0, rfl, Nat.zero_le _, Nat.le_refl _, ⟨Below.refl _ _⟩, ⟨rfl⟩⟩
 case round =>
  obtain ⟨i, rfl, hi, hg, S1, I⟩ := hrel
  by_cases hlt : i < l.length
  ·obtain ⟨ad, rfl, c0⟩ := (Kd.reads_of_C (d := ByteArray.empty) (Kd.C_below HC.out S1.out)).2.2 (by omega)
   have c1 := c0 i hlt
   have d1 : decide ((i : Int) < (l.length : Int)) = true := decide_eq_true (by omega)
   have Y : l[i]? = some (l.getD i ByteArray.empty) := by rw [List.getD_eq_getElem?_getD, List.getElem?_eq_getElem hlt]; rfl
   have hm : l.getD i ByteArray.empty ∈ l := List.mem_of_getElem? Y
   have hsz := HP.out _ hm
   have ht : (l.take (i + 1)).any noTerm = noTerm (l.getD i ByteArray.empty) := by
    rw [List.take_add_one, Y, List.any_append, I.out]; simp
   have hany : noTerm (l.getD i ByteArray.empty) = true → l.any noTerm = true := fun h => List.any_eq_true.2 ⟨_, hm, h⟩
   clear c0 Y hm
   generalize l.getD i ByteArray.empty = p at *
   have hcl := fun W => rterm_any p W (by omega)
   cases hb : noTerm p with
   | true =>
    rw [hb, show (!true) = false from rfl] at hcl
    have hr2 := Aside0.mk (hany hb)
    have hcl' := Aside0.mk hcl
    clear hany ht hb hcl
    go_wp2_with (go_at_call 126; refine (hcl'.out _).mono ?_; rintro e w2 ⟨⟨a_, b_, c_, d_, rfl⟩, hb2⟩)
    go_ret
    exact ⟨by rw [hr.out, hr2.out, Bool.not_true, Bool.and_false]; rfl, below_then (below_then HB.out HB.out.size S1.out) (Nat.le_trans HB.out.size S1.out.size) hb2⟩
   | false =>
    rw [hb, show (!false) = true from rfl] at hcl
    rw [hb] at ht
    have hcl' := Aside0.mk hcl
    have ht' := Aside0.mk ht
    clear hany ht hb hcl
    go_wp2_with (go_at_call 126; refine (hcl'.out _).mono ?_; rintro e w2 ⟨⟨a_, b_, c_, d_, rfl⟩, hb2⟩)
    go_roundg (l.length - (i + 1))
    case measure => omega
    case rel => exact ⟨i + 1, by go_num, by omega, Nat.le_refl _, ⟨below_then S1.out S1.out.size hb2⟩, ht'⟩
  ·obtain rfl : i = l.length := by omega
   have d1 : decide ((l.length : Int) < (l.length : Int)) = false := decide_eq_false (by omega)
   have hr2 := I.out
   rw [List.take_length] at hr2
   have hr2 := Aside0.mk hr2
   by_cases h4 : l.length ≤ 4
   ·have d4 : decide ((l.length : Int) ≤ 4) = true := decide_eq_true (by omega)
    go_wp2_with fail
    go_ret
    exact ⟨by rw [hr.out, hr2.out, decide_eq_true h4]; rfl, below_then HB.out HB.out.size S1.out⟩
   ·have d4 : decide ((l.length : Int) ≤ 4) = false := decide_eq_false (by omega)
    go_wp2_with fail
    go_ret
    exact ⟨by rw [hr.out, decide_eq_false h4]; rfl, below_then HB.out HB.out.size S1.out⟩
open Go.Proofs.YtldlkbjbfgieeaaGreatDoor.Ri (labsGo labS)
attribute [local go_sem high] Go.Proofs.YtldlkbjbfgieeaaGreatDoor.Sl.gtr_less Go.Proofs.YtldlkbjbfgieeaaGreatDoor.Sl.leq_less
set_option maxHeartbeats 4000000 in
theorem rlabs_any (s : ByteArray) (w : World) (hs : s.size < 4294967281) : Calls Tryz.prog 105 #[.string s] w fun e w' => e = .returned (.bool (labS s)) ∧ Below w.heap.size w w' := by
 by_cases h0 : s.size = 0
 ·have e0 := emp_yes h0
  have e : labS s = true := by unfold labS partsS; rw [if_pos h0]; rfl
  rw [e]
  go_enter Tryz.func105, Tryz.ntmps105
  go_wp2_with fail
  go_ret
  exact ⟨rfl, Below.refl _ _⟩
 have e0 := emp_no h0
 have hP := rsplit_parts s w hs h0
 have hps : ∀ p ∈ partsS s, p.size < 4294967281 := fun p hp => by have := Lb.parts_size hp; omega
 have hpl := Lb.parts_len s
 obtain ⟨r, hr⟩ : ∃ r, r = labS s := ⟨_, rfl⟩
 rw [← hr]
 unfold labS at hr
 replace hr := Lib.hid hr
 generalize partsS s = l at *
 generalize hG : labsGo l ByteArray.empty = G at hr
 replace hG := Lib.hid hG
 have HP := Aside0.mk hps
 clear hps
 go_enter Tryz.func105, Tryz.ntmps105
 go_wp2_with (go_at_call 125; refine hP.mono ?_; rintro e w1 ⟨A, c, rfl, hC, hb⟩; have HC := Aside0.mk hC; have HB := Aside0.mk hb; clear hC hb)
 go_loopg [4, 5] l.length (fun kx s4 s5 wr => ∃ (last : ByteArray) (i : Nat), s4 = .string last ∧ s5 = .int .i64 i ∧ i ≤ l.length ∧ l.length - i ≤ kx ∧ Aside0 (Below w1.heap.size w1 wr) ∧ Aside0 (G = labsGo (l.drop i) last))
 case atStart => exact ⟨ByteArray.empty, 0, rfl, rfl, Nat.zero_le _, Nat.le_refl _, ⟨Below.refl _ _⟩, ⟨hG.out.symm⟩⟩
 case round =>
  obtain ⟨last, i, rfl, rfl, hi, hg, S1, I⟩ := hrel
  by_cases hlt : i < l.length
  ·obtain ⟨ad, rfl, c0⟩ := (Kd.reads_of_C (d := ByteArray.empty) (Kd.C_below HC.out S1.out)).2.2 (by omega)
   have c1 := c0 i hlt
   have d1 : decide ((i : Int) < (l.length : Int)) = true := decide_eq_true (by omega)
   have Y : l[i]? = some (l.getD i ByteArray.empty) := by rw [List.getD_eq_getElem?_getD, List.getElem?_eq_getElem hlt]; rfl
   have hm : l.getD i ByteArray.empty ∈ l := List.mem_of_getElem? Y
   have hsz := HP.out _ hm
   have hd : l.drop i = l.getD i ByteArray.empty :: l.drop (i + 1) := by
    rw [List.drop_eq_getElem_cons hlt, List.getD_eq_getElem?_getD, List.getElem?_eq_getElem hlt]; rfl
   have hI := I.out
   rw [hd] at hI
   unfold labsGo at hI
   clear c0 Y hm hd I
   generalize l.getD i ByteArray.empty = p at *
   have hcl := fun W => rcut_any p W (by omega)
   generalize cutS p = z at *
   obtain ⟨k, v, is⟩ := z
   simp only at hcl hI
   have hcl' := Aside0.mk hcl
   clear hcl
   cases is with
   | false =>
    have hbad := Aside0.mk (show (G && decide (l.length ≤ 4)) = false from by rw [hI]; rfl)
    clear hI
    go_wp2_with (first | (go_at_call 127; refine (hcl'.out _).mono ?_; rintro e w2 ⟨rfl, hb2⟩) | (go_at_call 83; refine (rname_any _ _).mono ?_; rintro e w3 ⟨rfl, rfl⟩))
    go_ret
    exact ⟨by rw [hr.out, hbad.out]; rfl, below_then (below_then HB.out HB.out.size S1.out) (Nat.le_trans HB.out.size S1.out.size) hb2⟩
   | true =>
    cases hk : nm k with
    | false =>
     have hbad := Aside0.mk (show (G && decide (l.length ≤ 4)) = false from by rw [hI, hk]; rfl)
     clear hI
     go_wp2_with (first | (go_at_call 127; refine (hcl'.out _).mono ?_; rintro e w2 ⟨rfl, hb2⟩) | (go_at_call 83; refine (rname_any _ _).mono ?_; rintro e w3 ⟨rfl, rfl⟩))
     go_ret
     exact ⟨by rw [hr.out, hbad.out]; rfl, below_then (below_then HB.out HB.out.size S1.out) (Nat.le_trans HB.out.size S1.out.size) hb2⟩
    | true =>
     cases hv : nm v with
     | false =>
      have hbad := Aside0.mk (show (G && decide (l.length ≤ 4)) = false from by rw [hI, hk, hv]; rfl)
      clear hI
      go_wp2_with (first | (go_at_call 127; refine (hcl'.out _).mono ?_; rintro e w2 ⟨rfl, hb2⟩) | (go_at_call 83; refine (rname_any _ _).mono ?_; rintro e w3 ⟨rfl, rfl⟩))
      go_ret
      exact ⟨by rw [hr.out, hbad.out]; rfl, below_then (below_then HB.out HB.out.size S1.out) (Nat.le_trans HB.out.size S1.out.size) hb2⟩
     | true =>
      have hlt2 : lt last k = Op.bytesLess last.toList k.toList := rfl
      cases hl : Op.bytesLess last.toList k.toList with
      | false =>
           have hbad := Aside0.mk (show (G && decide (l.length ≤ 4)) = false from by rw [hI, hk, hv, hlt2, hl]; rfl)
           clear hI hlt2
           go_wp2_with (first | (go_at_call 127; refine (hcl'.out _).mono ?_; rintro e w2 ⟨rfl, hb2⟩) | (go_at_call 83; refine (rname_any _ _).mono ?_; rintro e w3 ⟨rfl, rfl⟩))
           go_ret
           exact ⟨by rw [hr.out, hbad.out]; rfl, below_then (below_then HB.out HB.out.size S1.out) (Nat.le_trans HB.out.size S1.out.size) hb2⟩
      | true =>
           rw [hk, hv, hlt2, hl] at hI
           have hI' := Aside0.mk hI
           clear hI hlt2
           go_wp2_with (first | (go_at_call 127; refine (hcl'.out _).mono ?_; rintro e w2 ⟨rfl, hb2⟩) | (go_at_call 83; refine (rname_any _ _).mono ?_; rintro e w3 ⟨rfl, rfl⟩))
           go_roundg (l.length - (i + 1))
           case measure => omega
           case rel => exact ⟨k, i + 1, rfl, by go_num, by omega, Nat.le_refl _, ⟨below_then S1.out S1.out.size hb2⟩, Aside0.mk (by have := hI'.out; simpa using this)⟩
  ·obtain rfl : i = l.length := by omega
   have d1 : decide ((l.length : Int) < (l.length : Int)) = false := decide_eq_false (by omega)
   have hr2 := I.out
   rw [List.drop_length] at hr2
   have hr2 := Aside0.mk hr2
   by_cases h4 : l.length ≤ 4
   ·have d4 : decide ((l.length : Int) ≤ 4) = true := decide_eq_true (by omega)
    go_wp2_with fail
    go_ret
    exact ⟨by rw [hr.out, hr2.out, decide_eq_true h4]; rfl, below_then HB.out HB.out.size S1.out⟩
   ·have d4 : decide ((l.length : Int) ≤ 4) = false := decide_eq_false (by omega)
    go_wp2_with fail
    go_ret
    exact ⟨by rw [hr.out, decide_eq_false h4, Bool.and_false]; rfl, below_then HB.out HB.out.size S1.out⟩
end Go.Proofs.YtldlkbjbfgieeaaGreatDoor.Rl
namespace Go.Proofs.YtldlkbjbfgieeaaGreatDoor.Rk
set_option linter.unusedVariables false
set_option linter.unusedSimpArgs false
open Go.RowKit Go.Proofs.YtldlkbjbfgieeaaGreatDoorW.PrintWords Go.Proofs.YtldlkbjbfgieeaaGreatDoorW.PrintLast Mo Q Go.Proofs.YtldlkbjbfgieeaaGreatDoor.Nm Cb Rn Rl
open Go.Proofs.YtldlkbjbfgieeaaGreatDoor.Lb (selS)
open Go.Proofs.YtldlkbjbfgieeaaGreatDoor.Ri (W N rightW rightN inB labS)
set_option maxHeartbeats 4000000 in
set_option maxRecDepth 100000 in
theorem rwork_any (x : W) (w : World) (hx : x.f5.size < 4294967281) : Calls Tryz.prog 84 #[.agg #[.string x.f0, .int .i64 x.f1, .int .i64 x.f2, .int .i64 x.f3, .int .i64 x.f4, .string x.f5]] w fun e w' => e = .returned (.bool (rightW x)) ∧ Below w.heap.size w w' := by
 have hB := below_alloc (Below.refl w.heap.size w) (.cells #[.string x.f0, .int .i64 x.f1, .int .i64 x.f2, .int .i64 x.f3, .int .i64 x.f4, .string x.f5] 32)
 have hO := blk_new w (.cells #[.string x.f0, .int .i64 x.f1, .int .i64 x.f2, .int .i64 x.f3, .int .i64 x.f4, .string x.f5] 32)
 obtain ⟨r, hr⟩ : ∃ r, r = rightW x := ⟨_, rfl⟩
 rw [← hr]
 cases h0 : nm x.f0 with
 | false =>
  have hz : rightW x = false := by
   rw [Bool.eq_false_iff]
   intro h
   unfold rightW inB at h
   simp only [Bool.and_eq_true, decide_eq_true_eq] at h
   rw [h0] at h
   exact absurd h.1 (by simp)
  rw [hz] at hr
  clear hz
  replace hr := Lib.hid hr
  go_enter Tryz.func84, Tryz.ntmps84
  have p0 := (blk_cell hO 0).trans rfl
  have p1 := (blk_cell hO 1).trans rfl
  have p2 := (blk_cell hO 2).trans rfl
  have p3 := (blk_cell hO 3).trans rfl
  have p4 := (blk_cell hO 4).trans rfl
  have p5 := (blk_cell hO 5).trans rfl
  go_wp2_with (first | (go_at_call 83; refine (rname_any _ _).mono ?_; rintro e w1 ⟨rfl, rfl⟩) | (go_at_call 104; refine (rsel_any x.f5 _ hx).mono ?_; rintro e w2 ⟨rfl, hb2⟩; have hO2 := blk_below hO hb2; have hB2 := below_then hB hB.size hb2; have o0 := (blk_cell hO2 0).trans rfl; have o1 := (blk_cell hO2 1).trans rfl; have o2 := (blk_cell hO2 2).trans rfl; have o3 := (blk_cell hO2 3).trans rfl; have o4 := (blk_cell hO2 4).trans rfl; have o5 := (blk_cell hO2 5).trans rfl))
  go_ret
  exact ⟨by rw [hr.out]; rfl, hB2⟩
 | true =>
  cases h1 : selS x.f5 with
  | false =>
   have hz : rightW x = false := by
    rw [Bool.eq_false_iff]
    intro h
    unfold rightW inB at h
    simp only [Bool.and_eq_true, decide_eq_true_eq] at h
    rw [h1] at h
    exact absurd h.1 (by simp)
   rw [hz] at hr
   clear hz
   replace hr := Lib.hid hr
   go_enter Tryz.func84, Tryz.ntmps84
   have p0 := (blk_cell hO 0).trans rfl
   have p1 := (blk_cell hO 1).trans rfl
   have p2 := (blk_cell hO 2).trans rfl
   have p3 := (blk_cell hO 3).trans rfl
   have p4 := (blk_cell hO 4).trans rfl
   have p5 := (blk_cell hO 5).trans rfl
   go_wp2_with (first | (go_at_call 83; refine (rname_any _ _).mono ?_; rintro e w1 ⟨rfl, rfl⟩) | (go_at_call 104; refine (rsel_any x.f5 _ hx).mono ?_; rintro e w2 ⟨rfl, hb2⟩; have hO2 := blk_below hO hb2; have hB2 := below_then hB hB.size hb2; have o0 := (blk_cell hO2 0).trans rfl; have o1 := (blk_cell hO2 1).trans rfl; have o2 := (blk_cell hO2 2).trans rfl; have o3 := (blk_cell hO2 3).trans rfl; have o4 := (blk_cell hO2 4).trans rfl; have o5 := (blk_cell hO2 5).trans rfl))
   go_ret
   exact ⟨by rw [hr.out]; rfl, hB2⟩
  | true =>
   by_cases q0 : 0 ≤ x.f1
   ·have d0 : decide ((0 : Int) ≤ x.f1) = true := decide_eq_true (by omega)
    by_cases q1 : x.f1 ≤ 16
    ·have d1 : decide (x.f1 ≤ (16 : Int)) = true := decide_eq_true (by omega)
     by_cases q2 : 0 ≤ x.f2
     ·have d2 : decide ((0 : Int) ≤ x.f2) = true := decide_eq_true (by omega)
      by_cases q3 : x.f2 ≤ 9
      ·have d3 : decide (x.f2 ≤ (9 : Int)) = true := decide_eq_true (by omega)
       by_cases q4 : 1 ≤ x.f3
       ·have d4 : decide ((1 : Int) ≤ x.f3) = true := decide_eq_true (by omega)
        by_cases q5 : x.f3 ≤ 16
        ·have d5 : decide (x.f3 ≤ (16 : Int)) = true := decide_eq_true (by omega)
         by_cases q6 : 1 ≤ x.f4
         ·have d6 : decide ((1 : Int) ≤ x.f4) = true := decide_eq_true (by omega)
          by_cases q7 : x.f4 ≤ 16
          ·have d7 : decide (x.f4 ≤ (16 : Int)) = true := decide_eq_true (by omega)
           have hz : rightW x = true := by
            unfold rightW inB
            simp only [Bool.and_eq_true, decide_eq_true_eq]
            refine ⟨⟨⟨⟨⟨h0, h1⟩, q0, q1⟩, q2, q3⟩, q4, q5⟩, q6, q7⟩
           rw [hz] at hr
           clear hz
           replace hr := Lib.hid hr
           go_enter Tryz.func84, Tryz.ntmps84
           have p0 := (blk_cell hO 0).trans rfl
           have p1 := (blk_cell hO 1).trans rfl
           have p2 := (blk_cell hO 2).trans rfl
           have p3 := (blk_cell hO 3).trans rfl
           have p4 := (blk_cell hO 4).trans rfl
           have p5 := (blk_cell hO 5).trans rfl
           go_wp2_with (first | (go_at_call 83; refine (rname_any _ _).mono ?_; rintro e w1 ⟨rfl, rfl⟩) | (go_at_call 104; refine (rsel_any x.f5 _ hx).mono ?_; rintro e w2 ⟨rfl, hb2⟩; have hO2 := blk_below hO hb2; have hB2 := below_then hB hB.size hb2; have o0 := (blk_cell hO2 0).trans rfl; have o1 := (blk_cell hO2 1).trans rfl; have o2 := (blk_cell hO2 2).trans rfl; have o3 := (blk_cell hO2 3).trans rfl; have o4 := (blk_cell hO2 4).trans rfl; have o5 := (blk_cell hO2 5).trans rfl))
           go_ret
           exact ⟨by rw [hr.out]; rfl, hB2⟩
          ·have d7 : decide (x.f4 ≤ (16 : Int)) = false := decide_eq_false (by omega)
           have hz : rightW x = false := by
            rw [Bool.eq_false_iff]
            intro h
            unfold rightW inB at h
            simp only [Bool.and_eq_true, decide_eq_true_eq] at h
            omega
           rw [hz] at hr
           clear hz
           replace hr := Lib.hid hr
           go_enter Tryz.func84, Tryz.ntmps84
           have p0 := (blk_cell hO 0).trans rfl
           have p1 := (blk_cell hO 1).trans rfl
           have p2 := (blk_cell hO 2).trans rfl
           have p3 := (blk_cell hO 3).trans rfl
           have p4 := (blk_cell hO 4).trans rfl
           have p5 := (blk_cell hO 5).trans rfl
           go_wp2_with (first | (go_at_call 83; refine (rname_any _ _).mono ?_; rintro e w1 ⟨rfl, rfl⟩) | (go_at_call 104; refine (rsel_any x.f5 _ hx).mono ?_; rintro e w2 ⟨rfl, hb2⟩; have hO2 := blk_below hO hb2; have hB2 := below_then hB hB.size hb2; have o0 := (blk_cell hO2 0).trans rfl; have o1 := (blk_cell hO2 1).trans rfl; have o2 := (blk_cell hO2 2).trans rfl; have o3 := (blk_cell hO2 3).trans rfl; have o4 := (blk_cell hO2 4).trans rfl; have o5 := (blk_cell hO2 5).trans rfl))
           go_ret
           exact ⟨by rw [hr.out]; rfl, hB2⟩
         ·have d6 : decide ((1 : Int) ≤ x.f4) = false := decide_eq_false (by omega)
          have hz : rightW x = false := by
           rw [Bool.eq_false_iff]
           intro h
           unfold rightW inB at h
           simp only [Bool.and_eq_true, decide_eq_true_eq] at h
           omega
          rw [hz] at hr
          clear hz
          replace hr := Lib.hid hr
          go_enter Tryz.func84, Tryz.ntmps84
          have p0 := (blk_cell hO 0).trans rfl
          have p1 := (blk_cell hO 1).trans rfl
          have p2 := (blk_cell hO 2).trans rfl
          have p3 := (blk_cell hO 3).trans rfl
          have p4 := (blk_cell hO 4).trans rfl
          have p5 := (blk_cell hO 5).trans rfl
          go_wp2_with (first | (go_at_call 83; refine (rname_any _ _).mono ?_; rintro e w1 ⟨rfl, rfl⟩) | (go_at_call 104; refine (rsel_any x.f5 _ hx).mono ?_; rintro e w2 ⟨rfl, hb2⟩; have hO2 := blk_below hO hb2; have hB2 := below_then hB hB.size hb2; have o0 := (blk_cell hO2 0).trans rfl; have o1 := (blk_cell hO2 1).trans rfl; have o2 := (blk_cell hO2 2).trans rfl; have o3 := (blk_cell hO2 3).trans rfl; have o4 := (blk_cell hO2 4).trans rfl; have o5 := (blk_cell hO2 5).trans rfl))
          go_ret
          exact ⟨by rw [hr.out]; rfl, hB2⟩
        ·have d5 : decide (x.f3 ≤ (16 : Int)) = false := decide_eq_false (by omega)
         have hz : rightW x = false := by
          rw [Bool.eq_false_iff]
          intro h
          unfold rightW inB at h
          simp only [Bool.and_eq_true, decide_eq_true_eq] at h
          omega
         rw [hz] at hr
         clear hz
         replace hr := Lib.hid hr
         go_enter Tryz.func84, Tryz.ntmps84
         have p0 := (blk_cell hO 0).trans rfl
         have p1 := (blk_cell hO 1).trans rfl
         have p2 := (blk_cell hO 2).trans rfl
         have p3 := (blk_cell hO 3).trans rfl
         have p4 := (blk_cell hO 4).trans rfl
         have p5 := (blk_cell hO 5).trans rfl
         go_wp2_with (first | (go_at_call 83; refine (rname_any _ _).mono ?_; rintro e w1 ⟨rfl, rfl⟩) | (go_at_call 104; refine (rsel_any x.f5 _ hx).mono ?_; rintro e w2 ⟨rfl, hb2⟩; have hO2 := blk_below hO hb2; have hB2 := below_then hB hB.size hb2; have o0 := (blk_cell hO2 0).trans rfl; have o1 := (blk_cell hO2 1).trans rfl; have o2 := (blk_cell hO2 2).trans rfl; have o3 := (blk_cell hO2 3).trans rfl; have o4 := (blk_cell hO2 4).trans rfl; have o5 := (blk_cell hO2 5).trans rfl))
         go_ret
         exact ⟨by rw [hr.out]; rfl, hB2⟩
       ·have d4 : decide ((1 : Int) ≤ x.f3) = false := decide_eq_false (by omega)
        have hz : rightW x = false := by
         rw [Bool.eq_false_iff]
         intro h
         unfold rightW inB at h
         simp only [Bool.and_eq_true, decide_eq_true_eq] at h
         omega
        rw [hz] at hr
        clear hz
        replace hr := Lib.hid hr
        go_enter Tryz.func84, Tryz.ntmps84
        have p0 := (blk_cell hO 0).trans rfl
        have p1 := (blk_cell hO 1).trans rfl
        have p2 := (blk_cell hO 2).trans rfl
        have p3 := (blk_cell hO 3).trans rfl
        have p4 := (blk_cell hO 4).trans rfl
        have p5 := (blk_cell hO 5).trans rfl
        go_wp2_with (first | (go_at_call 83; refine (rname_any _ _).mono ?_; rintro e w1 ⟨rfl, rfl⟩) | (go_at_call 104; refine (rsel_any x.f5 _ hx).mono ?_; rintro e w2 ⟨rfl, hb2⟩; have hO2 := blk_below hO hb2; have hB2 := below_then hB hB.size hb2; have o0 := (blk_cell hO2 0).trans rfl; have o1 := (blk_cell hO2 1).trans rfl; have o2 := (blk_cell hO2 2).trans rfl; have o3 := (blk_cell hO2 3).trans rfl; have o4 := (blk_cell hO2 4).trans rfl; have o5 := (blk_cell hO2 5).trans rfl))
        go_ret
        exact ⟨by rw [hr.out]; rfl, hB2⟩
      ·have d3 : decide (x.f2 ≤ (9 : Int)) = false := decide_eq_false (by omega)
       have hz : rightW x = false := by
        rw [Bool.eq_false_iff]
        intro h
        unfold rightW inB at h
        simp only [Bool.and_eq_true, decide_eq_true_eq] at h
        omega
       rw [hz] at hr
       clear hz
       replace hr := Lib.hid hr
       go_enter Tryz.func84, Tryz.ntmps84
       have p0 := (blk_cell hO 0).trans rfl
       have p1 := (blk_cell hO 1).trans rfl
       have p2 := (blk_cell hO 2).trans rfl
       have p3 := (blk_cell hO 3).trans rfl
       have p4 := (blk_cell hO 4).trans rfl
       have p5 := (blk_cell hO 5).trans rfl
       go_wp2_with (first | (go_at_call 83; refine (rname_any _ _).mono ?_; rintro e w1 ⟨rfl, rfl⟩) | (go_at_call 104; refine (rsel_any x.f5 _ hx).mono ?_; rintro e w2 ⟨rfl, hb2⟩; have hO2 := blk_below hO hb2; have hB2 := below_then hB hB.size hb2; have o0 := (blk_cell hO2 0).trans rfl; have o1 := (blk_cell hO2 1).trans rfl; have o2 := (blk_cell hO2 2).trans rfl; have o3 := (blk_cell hO2 3).trans rfl; have o4 := (blk_cell hO2 4).trans rfl; have o5 := (blk_cell hO2 5).trans rfl))
       go_ret
       exact ⟨by rw [hr.out]; rfl, hB2⟩
     ·have d2 : decide ((0 : Int) ≤ x.f2) = false := decide_eq_false (by omega)
      have hz : rightW x = false := by
       rw [Bool.eq_false_iff]
       intro h
       unfold rightW inB at h
       simp only [Bool.and_eq_true, decide_eq_true_eq] at h
       omega
      rw [hz] at hr
      clear hz
      replace hr := Lib.hid hr
      go_enter Tryz.func84, Tryz.ntmps84
      have p0 := (blk_cell hO 0).trans rfl
      have p1 := (blk_cell hO 1).trans rfl
      have p2 := (blk_cell hO 2).trans rfl
      have p3 := (blk_cell hO 3).trans rfl
      have p4 := (blk_cell hO 4).trans rfl
      have p5 := (blk_cell hO 5).trans rfl
      go_wp2_with (first | (go_at_call 83; refine (rname_any _ _).mono ?_; rintro e w1 ⟨rfl, rfl⟩) | (go_at_call 104; refine (rsel_any x.f5 _ hx).mono ?_; rintro e w2 ⟨rfl, hb2⟩; have hO2 := blk_below hO hb2; have hB2 := below_then hB hB.size hb2; have o0 := (blk_cell hO2 0).trans rfl; have o1 := (blk_cell hO2 1).trans rfl; have o2 := (blk_cell hO2 2).trans rfl; have o3 := (blk_cell hO2 3).trans rfl; have o4 := (blk_cell hO2 4).trans rfl; have o5 := (blk_cell hO2 5).trans rfl))
      go_ret
      exact ⟨by rw [hr.out]; rfl, hB2⟩
    ·have d1 : decide (x.f1 ≤ (16 : Int)) = false := decide_eq_false (by omega)
     have hz : rightW x = false := by
      rw [Bool.eq_false_iff]
      intro h
      unfold rightW inB at h
      simp only [Bool.and_eq_true, decide_eq_true_eq] at h
      omega
     rw [hz] at hr
     clear hz
     replace hr := Lib.hid hr
     go_enter Tryz.func84, Tryz.ntmps84
     have p0 := (blk_cell hO 0).trans rfl
     have p1 := (blk_cell hO 1).trans rfl
     have p2 := (blk_cell hO 2).trans rfl
     have p3 := (blk_cell hO 3).trans rfl
     have p4 := (blk_cell hO 4).trans rfl
     have p5 := (blk_cell hO 5).trans rfl
     go_wp2_with (first | (go_at_call 83; refine (rname_any _ _).mono ?_; rintro e w1 ⟨rfl, rfl⟩) | (go_at_call 104; refine (rsel_any x.f5 _ hx).mono ?_; rintro e w2 ⟨rfl, hb2⟩; have hO2 := blk_below hO hb2; have hB2 := below_then hB hB.size hb2; have o0 := (blk_cell hO2 0).trans rfl; have o1 := (blk_cell hO2 1).trans rfl; have o2 := (blk_cell hO2 2).trans rfl; have o3 := (blk_cell hO2 3).trans rfl; have o4 := (blk_cell hO2 4).trans rfl; have o5 := (blk_cell hO2 5).trans rfl))
     go_ret
     exact ⟨by rw [hr.out]; rfl, hB2⟩
   ·have d0 : decide ((0 : Int) ≤ x.f1) = false := decide_eq_false (by omega)
    have hz : rightW x = false := by
     rw [Bool.eq_false_iff]
     intro h
     unfold rightW inB at h
     simp only [Bool.and_eq_true, decide_eq_true_eq] at h
     omega
    rw [hz] at hr
    clear hz
    replace hr := Lib.hid hr
    go_enter Tryz.func84, Tryz.ntmps84
    have p0 := (blk_cell hO 0).trans rfl
    have p1 := (blk_cell hO 1).trans rfl
    have p2 := (blk_cell hO 2).trans rfl
    have p3 := (blk_cell hO 3).trans rfl
    have p4 := (blk_cell hO 4).trans rfl
    have p5 := (blk_cell hO 5).trans rfl
    go_wp2_with (first | (go_at_call 83; refine (rname_any _ _).mono ?_; rintro e w1 ⟨rfl, rfl⟩) | (go_at_call 104; refine (rsel_any x.f5 _ hx).mono ?_; rintro e w2 ⟨rfl, hb2⟩; have hO2 := blk_below hO hb2; have hB2 := below_then hB hB.size hb2; have o0 := (blk_cell hO2 0).trans rfl; have o1 := (blk_cell hO2 1).trans rfl; have o2 := (blk_cell hO2 2).trans rfl; have o3 := (blk_cell hO2 3).trans rfl; have o4 := (blk_cell hO2 4).trans rfl; have o5 := (blk_cell hO2 5).trans rfl))
    go_ret
    exact ⟨by rw [hr.out]; rfl, hB2⟩
set_option maxHeartbeats 4000000 in
set_option maxRecDepth 100000 in
theorem rnode_any (x : N) (w : World) (hx : x.f3.size < 4294967281) : Calls Tryz.prog 85 #[.agg #[.string x.f0, .int .i64 x.f1, .int .i64 x.f2, .string x.f3, .bool x.f4]] w fun e w' => e = .returned (.bool (rightN x)) ∧ Below w.heap.size w w' := by
 have hB := below_alloc (Below.refl w.heap.size w) (.cells #[.string x.f0, .int .i64 x.f1, .int .i64 x.f2, .string x.f3, .bool x.f4] 34)
 have hO := blk_new w (.cells #[.string x.f0, .int .i64 x.f1, .int .i64 x.f2, .string x.f3, .bool x.f4] 34)
 obtain ⟨r, hr⟩ : ∃ r, r = rightN x := ⟨_, rfl⟩
 rw [← hr]
 cases h0 : nm x.f0 with
 | false =>
  have hz : rightN x = false := by
   rw [Bool.eq_false_iff]
   intro h
   unfold rightN inB at h
   simp only [Bool.and_eq_true, decide_eq_true_eq] at h
   rw [h0] at h
   exact absurd h.1 (by simp)
  rw [hz] at hr
  clear hz
  replace hr := Lib.hid hr
  go_enter Tryz.func85, Tryz.ntmps85
  have p0 := (blk_cell hO 0).trans rfl
  have p1 := (blk_cell hO 1).trans rfl
  have p2 := (blk_cell hO 2).trans rfl
  have p3 := (blk_cell hO 3).trans rfl
  have p4 := (blk_cell hO 4).trans rfl
  go_wp2_with (first | (go_at_call 83; refine (rname_any _ _).mono ?_; rintro e w1 ⟨rfl, rfl⟩) | (go_at_call 105; refine (rlabs_any x.f3 _ hx).mono ?_; rintro e w2 ⟨rfl, hb2⟩; have hO2 := blk_below hO hb2; have hB2 := below_then hB hB.size hb2; have o0 := (blk_cell hO2 0).trans rfl; have o1 := (blk_cell hO2 1).trans rfl; have o2 := (blk_cell hO2 2).trans rfl; have o3 := (blk_cell hO2 3).trans rfl; have o4 := (blk_cell hO2 4).trans rfl))
  go_ret
  exact ⟨by rw [hr.out]; rfl, hB2⟩
 | true =>
  cases h1 : labS x.f3 with
  | false =>
   have hz : rightN x = false := by
    rw [Bool.eq_false_iff]
    intro h
    unfold rightN inB at h
    simp only [Bool.and_eq_true, decide_eq_true_eq] at h
    rw [h1] at h
    exact absurd h.1 (by simp)
   rw [hz] at hr
   clear hz
   replace hr := Lib.hid hr
   go_enter Tryz.func85, Tryz.ntmps85
   have p0 := (blk_cell hO 0).trans rfl
   have p1 := (blk_cell hO 1).trans rfl
   have p2 := (blk_cell hO 2).trans rfl
   have p3 := (blk_cell hO 3).trans rfl
   have p4 := (blk_cell hO 4).trans rfl
   go_wp2_with (first | (go_at_call 83; refine (rname_any _ _).mono ?_; rintro e w1 ⟨rfl, rfl⟩) | (go_at_call 105; refine (rlabs_any x.f3 _ hx).mono ?_; rintro e w2 ⟨rfl, hb2⟩; have hO2 := blk_below hO hb2; have hB2 := below_then hB hB.size hb2; have o0 := (blk_cell hO2 0).trans rfl; have o1 := (blk_cell hO2 1).trans rfl; have o2 := (blk_cell hO2 2).trans rfl; have o3 := (blk_cell hO2 3).trans rfl; have o4 := (blk_cell hO2 4).trans rfl))
   go_ret
   exact ⟨by rw [hr.out]; rfl, hB2⟩
  | true =>
   by_cases q0 : 0 ≤ x.f1
   ·have d0 : decide ((0 : Int) ≤ x.f1) = true := decide_eq_true (by omega)
    by_cases q1 : x.f1 < 3
    ·have d1 : decide (x.f1 < (3 : Int)) = true := decide_eq_true (by omega)
     by_cases q2 : 0 ≤ x.f2
     ·have d2 : decide ((0 : Int) ≤ x.f2) = true := decide_eq_true (by omega)
      by_cases q3 : x.f2 ≤ 4
      ·have d3 : decide (x.f2 ≤ (4 : Int)) = true := decide_eq_true (by omega)
       have hz : rightN x = true := by
        unfold rightN inB
        simp only [Bool.and_eq_true, decide_eq_true_eq]
        refine ⟨⟨⟨h0, h1⟩, q0, by omega⟩, q2, q3⟩
       rw [hz] at hr
       clear hz
       replace hr := Lib.hid hr
       go_enter Tryz.func85, Tryz.ntmps85
       have p0 := (blk_cell hO 0).trans rfl
       have p1 := (blk_cell hO 1).trans rfl
       have p2 := (blk_cell hO 2).trans rfl
       have p3 := (blk_cell hO 3).trans rfl
       have p4 := (blk_cell hO 4).trans rfl
       go_wp2_with (first | (go_at_call 83; refine (rname_any _ _).mono ?_; rintro e w1 ⟨rfl, rfl⟩) | (go_at_call 105; refine (rlabs_any x.f3 _ hx).mono ?_; rintro e w2 ⟨rfl, hb2⟩; have hO2 := blk_below hO hb2; have hB2 := below_then hB hB.size hb2; have o0 := (blk_cell hO2 0).trans rfl; have o1 := (blk_cell hO2 1).trans rfl; have o2 := (blk_cell hO2 2).trans rfl; have o3 := (blk_cell hO2 3).trans rfl; have o4 := (blk_cell hO2 4).trans rfl))
       go_ret
       exact ⟨by rw [hr.out]; rfl, hB2⟩
      ·have d3 : decide (x.f2 ≤ (4 : Int)) = false := decide_eq_false (by omega)
       have hz : rightN x = false := by
        rw [Bool.eq_false_iff]
        intro h
        unfold rightN inB at h
        simp only [Bool.and_eq_true, decide_eq_true_eq] at h
        omega
       rw [hz] at hr
       clear hz
       replace hr := Lib.hid hr
       go_enter Tryz.func85, Tryz.ntmps85
       have p0 := (blk_cell hO 0).trans rfl
       have p1 := (blk_cell hO 1).trans rfl
       have p2 := (blk_cell hO 2).trans rfl
       have p3 := (blk_cell hO 3).trans rfl
       have p4 := (blk_cell hO 4).trans rfl
       go_wp2_with (first | (go_at_call 83; refine (rname_any _ _).mono ?_; rintro e w1 ⟨rfl, rfl⟩) | (go_at_call 105; refine (rlabs_any x.f3 _ hx).mono ?_; rintro e w2 ⟨rfl, hb2⟩; have hO2 := blk_below hO hb2; have hB2 := below_then hB hB.size hb2; have o0 := (blk_cell hO2 0).trans rfl; have o1 := (blk_cell hO2 1).trans rfl; have o2 := (blk_cell hO2 2).trans rfl; have o3 := (blk_cell hO2 3).trans rfl; have o4 := (blk_cell hO2 4).trans rfl))
       go_ret
       exact ⟨by rw [hr.out]; rfl, hB2⟩
     ·have d2 : decide ((0 : Int) ≤ x.f2) = false := decide_eq_false (by omega)
      have hz : rightN x = false := by
       rw [Bool.eq_false_iff]
       intro h
       unfold rightN inB at h
       simp only [Bool.and_eq_true, decide_eq_true_eq] at h
       omega
      rw [hz] at hr
      clear hz
      replace hr := Lib.hid hr
      go_enter Tryz.func85, Tryz.ntmps85
      have p0 := (blk_cell hO 0).trans rfl
      have p1 := (blk_cell hO 1).trans rfl
      have p2 := (blk_cell hO 2).trans rfl
      have p3 := (blk_cell hO 3).trans rfl
      have p4 := (blk_cell hO 4).trans rfl
      go_wp2_with (first | (go_at_call 83; refine (rname_any _ _).mono ?_; rintro e w1 ⟨rfl, rfl⟩) | (go_at_call 105; refine (rlabs_any x.f3 _ hx).mono ?_; rintro e w2 ⟨rfl, hb2⟩; have hO2 := blk_below hO hb2; have hB2 := below_then hB hB.size hb2; have o0 := (blk_cell hO2 0).trans rfl; have o1 := (blk_cell hO2 1).trans rfl; have o2 := (blk_cell hO2 2).trans rfl; have o3 := (blk_cell hO2 3).trans rfl; have o4 := (blk_cell hO2 4).trans rfl))
      go_ret
      exact ⟨by rw [hr.out]; rfl, hB2⟩
    ·have d1 : decide (x.f1 < (3 : Int)) = false := decide_eq_false (by omega)
     have hz : rightN x = false := by
      rw [Bool.eq_false_iff]
      intro h
      unfold rightN inB at h
      simp only [Bool.and_eq_true, decide_eq_true_eq] at h
      omega
     rw [hz] at hr
     clear hz
     replace hr := Lib.hid hr
     go_enter Tryz.func85, Tryz.ntmps85
     have p0 := (blk_cell hO 0).trans rfl
     have p1 := (blk_cell hO 1).trans rfl
     have p2 := (blk_cell hO 2).trans rfl
     have p3 := (blk_cell hO 3).trans rfl
     have p4 := (blk_cell hO 4).trans rfl
     go_wp2_with (first | (go_at_call 83; refine (rname_any _ _).mono ?_; rintro e w1 ⟨rfl, rfl⟩) | (go_at_call 105; refine (rlabs_any x.f3 _ hx).mono ?_; rintro e w2 ⟨rfl, hb2⟩; have hO2 := blk_below hO hb2; have hB2 := below_then hB hB.size hb2; have o0 := (blk_cell hO2 0).trans rfl; have o1 := (blk_cell hO2 1).trans rfl; have o2 := (blk_cell hO2 2).trans rfl; have o3 := (blk_cell hO2 3).trans rfl; have o4 := (blk_cell hO2 4).trans rfl))
     go_ret
     exact ⟨by rw [hr.out]; rfl, hB2⟩
   ·have d0 : decide ((0 : Int) ≤ x.f1) = false := decide_eq_false (by omega)
    have hz : rightN x = false := by
     rw [Bool.eq_false_iff]
     intro h
     unfold rightN inB at h
     simp only [Bool.and_eq_true, decide_eq_true_eq] at h
     omega
    rw [hz] at hr
    clear hz
    replace hr := Lib.hid hr
    go_enter Tryz.func85, Tryz.ntmps85
    have p0 := (blk_cell hO 0).trans rfl
    have p1 := (blk_cell hO 1).trans rfl
    have p2 := (blk_cell hO 2).trans rfl
    have p3 := (blk_cell hO 3).trans rfl
    have p4 := (blk_cell hO 4).trans rfl
    go_wp2_with (first | (go_at_call 83; refine (rname_any _ _).mono ?_; rintro e w1 ⟨rfl, rfl⟩) | (go_at_call 105; refine (rlabs_any x.f3 _ hx).mono ?_; rintro e w2 ⟨rfl, hb2⟩; have hO2 := blk_below hO hb2; have hB2 := below_then hB hB.size hb2; have o0 := (blk_cell hO2 0).trans rfl; have o1 := (blk_cell hO2 1).trans rfl; have o2 := (blk_cell hO2 2).trans rfl; have o3 := (blk_cell hO2 3).trans rfl; have o4 := (blk_cell hO2 4).trans rfl))
    go_ret
    exact ⟨by rw [hr.out]; rfl, hB2⟩
end Go.Proofs.YtldlkbjbfgieeaaGreatDoor.Rk
