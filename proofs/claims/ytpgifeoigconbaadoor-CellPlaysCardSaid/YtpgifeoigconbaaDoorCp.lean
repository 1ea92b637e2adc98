/- CellPlays: the walk. -/
import Derived.Test.YtpgifeoigconbaaDoorCt
import Derived.Test.YtpgifeoigconbaaDoorSq
namespace Go.Proofs.YtpgifeoigconbaaDoor.Cl
set_option linter.unusedVariables false
set_option linter.unusedSimpArgs false
open Go.RowKit Go.Proofs.YtpgifeoigconbaaDoorW.PrintWords Go.Proofs.YtpgifeoigconbaaDoorW.PrintLast Go.Proofs.YtpgifeoigconbaaDoor.Mo Go.Proofs.YtpgifeoigconbaaDoor.Q Go.Proofs.YtpgifeoigconbaaDoor.Rt
attribute [local go_sem] max2_int min2_int max_two min_two max_three min_three max_four min_four
def stp : Cv := ⟨0, 1, 0, 0, 0, []⟩
/-- a message as it lies at an address -/
def At31 (w : World) (p : Addr) (X : S31) (B : Option Addr) (c : Nat) : Prop :=
  w.cell? p = some (.int .i64 X.f0) ∧ w.cell? ⟨p.block, p.off + 1, none⟩ = some (.int .i64 X.f1) ∧ w.cell? ⟨p.block, p.off + 2, none⟩ = some (.int .i64 X.f2) ∧ w.cell? ⟨p.block, p.off + 3, none⟩ = some (.int .i64 X.f3) ∧ w.cell? ⟨p.block, p.off + 4, none⟩ = some (.int .i64 X.f4) ∧ w.cell? ⟨p.block, p.off + 5, none⟩ = some (.int .i64 X.f5) ∧ w.cell? ⟨p.block, p.off + 6, none⟩ = some (.slice B X.f6.length c)
theorem At31.up {w w' : World} {p : Addr} {X : S31} {B : Option Addr} {c : Nat} (h : At31 w p X B c) (hB : Below w.heap.size w w') : At31 w' p X B c :=
  ⟨cell_up hB h.1, cell_up hB h.2.1, cell_up hB h.2.2.1, cell_up hB h.2.2.2.1, cell_up hB h.2.2.2.2.1, cell_up hB h.2.2.2.2.2.1, cell_up hB h.2.2.2.2.2.2⟩
/-- a raw grant as it lies at an address -/
def At42 (w : World) (p : Addr) (X : S42) (B : Option Addr) (c : Nat) : Prop :=
  w.cell? p = some (.int .i64 X.f0) ∧ w.cell? ⟨p.block, p.off + 1, none⟩ = some (.int .i64 X.f1) ∧ w.cell? ⟨p.block, p.off + 2, none⟩ = some (.int .i64 X.f2) ∧ w.cell? ⟨p.block, p.off + 3, none⟩ = some (.int .i64 X.f3) ∧ w.cell? ⟨p.block, p.off + 4, none⟩ = some (.int .i64 X.f4) ∧ w.cell? ⟨p.block, p.off + 5, none⟩ = some (.int .i64 X.f5) ∧ w.cell? ⟨p.block, p.off + 6, none⟩ = some (.slice B X.f6.length c)
theorem At42.up {w w' : World} {p : Addr} {X : S42} {B : Option Addr} {c : Nat} (h : At42 w p X B c) (hB : Below w.heap.size w w') : At42 w' p X B c :=
  ⟨cell_up hB h.1, cell_up hB h.2.1, cell_up hB h.2.2.1, cell_up hB h.2.2.2.1, cell_up hB h.2.2.2.2.1, cell_up hB h.2.2.2.2.2.1, cell_up hB h.2.2.2.2.2.2⟩
/-- what stands between rounds -/
def Bt (w W : World) (ga gb gc gd : Nat) (x y : Cv) : Prop := F4 (fun _ => True) w W ga gb gc gd x x y y
/-- a row of binds whose own block is no cell's -/
theorem keep35 {w w' : World} {base g t : Nat} {cs : Array Value} {V : Value} {l : List S35} (h : k35.R 35 w base (fun _ => True) V l) (hg : w.heap[g]? = some (.cells cs t (0, 0))) (ht : (35 : Nat) ≠ t) (hk : KeepBut w w' g none) : k35.R 35 w' base (fun _ => True) V l :=
  Kd.R_mono (Kd.R_keep (Kd.R_types h hg (fun q hq => by simp [k35, Kd.iso, Kd.pair, Kd.string, Kd.int, Kd.scalar] at hq; subst hq; exact ht)) hk (fun k hk => hk.2)) (fun _ _ => trivial)
theorem C_lt {w : World} {A : Option Addr} {n : Nat} {xs : List S35} (h : Kd.C k35 w A n xs) (ad : Addr) (he : A = some ad) (hn : 0 < n) : ad.block < w.heap.size := by
  obtain ⟨ad', he', hc⟩ := h.2.2 hn
  rw [he] at he'
  injection he' with he'
  subst he'
  have hx : 0 < xs.length := by have := h.1; omega
  obtain ⟨cs, h1, h2, h3⟩ := hc 0 _ (List.getElem?_eq_getElem hx)
  have := k35_open h2
  subst this
  have := World.block_lt_of_cell? w _ (h3 0 _ rfl)
  rwa [add_block] at this
theorem blk35 {w : World} {base q n c : Nat} {ok : Nat → Prop} {l : List S35} (h : k35.R 35 w base ok (.slice (some ⟨q, 0, none⟩) n c) l) (hn : 0 < n) : ∃ cs, w.heap[q]? = some (.cells cs 35 (0, 0)) := by
  obtain ⟨_, inner, ho, _⟩ := h
  rcases ho.2 with ⟨he, _⟩ | ⟨q', cap, cur, he, _, hq, _⟩
  · injection he with _ h2 _; omega
  · injection he with h1 _ _
    injection h1 with h1
    injection h1 with h1
    subst h1
    exact ⟨_, hq⟩
theorem far35 {ok : Nat → Prop} {t g n c base : Nat} {w0 w : World} {x : Cv} {A : Option Addr} {l : List S35} (h : k35.R 35 w base (fun _ => True) (.slice A n c) l) (hg : Ct ok t w0 w g x) (ht : t ≠ 35 := by decide) : ∀ ad, A = some ad → 0 < n → ad.block ≠ g := by
  intro ad he hn
  obtain ⟨q, rfl, _, _⟩ := own35 h hn
  injection he with he
  subst he
  obtain ⟨cs, hq⟩ := blk35 h hn
  exact hg.ne hq ht
/-- in the loop that writes the counts -/
def Ow (ok : Nat → Prop) (w W : World) (ga gb gc gd : Nat) (x y : Cv) (base : Nat) (A : Option Addr) (n c : Nat) : Prop := F4 ok w W ga gb gc gd x x y y ∧ ∃ l', l'.length = n ∧ k35.R 35 W base (fun _ => True) (.slice A n c) l'
set_option maxHeartbeats 8000000 in
set_option maxRecDepth 100000 in
theorem plays (n boot : Int) (A0 : Option Addr) (c0 : Nat) (any : List S31) (A1 : Option Addr) (c1 : Nat) (l : List S42) (now : Int) (w : World) (hr0 : Kd.C k31 w A0 any.length any) (hc0 : any.length ≤ c0) (hr1 : Kd.C k42 w A1 l.length l) (hc1 : l.length ≤ c1) (hV : ∀ x ∈ l, ∀ y ∈ x.f6, I64 y) :
    Calls Tryd.prog 3 #[.int .i64 n, .int .i64 boot, .slice A0 any.length c0, .slice A1 l.length c1, .int .i64 now] w fun e w' => e = .returned (.bool true) ∧ Below w.heap.size w w' := by
  go_enter Tryd.func3, Tryd.ntmps3
  go_wp2_with fail
  refine (awake_any w w (Below.refl _ _)).mono ?_; rintro ee w1 ⟨rfl, HB1⟩
  go_wp2_with fail
  refine (new_any (ok := fun _ => True) n boot w w1 HB1).mono ?_; rintro ee w2 ⟨ga, rfl, ha2, HB2, -, -⟩
  go_wp2_with fail
  refine (rnew_any (ok := fun _ => True) n boot w w2 HB2).mono ?_; rintro ee w3 ⟨gb, rfl, hb3, HB3, hx3, -⟩
  go_wp2_with fail
  refine (new_any (ok := fun _ => True) 0 1 w w3 HB3).mono ?_; rintro ee w4 ⟨gc, rfl, hc4, HB4, hx4, hge4⟩
  go_wp2_with fail
  refine (rnew_any (ok := fun _ => True) 0 1 w w4 HB4).mono ?_; rintro ee w5 ⟨gd, rfl, hd5, HB5, hx5, hge5⟩
  have hF := Aside0.mk (show Bt w w5 ga gb gc gd ⟨n, boot, 0, 0, 0, []⟩ stp from ⟨⟨_, ((ha2.below hx3).below hx4).below hx5⟩, ⟨_, (hb3.below hx4).below hx5⟩, ⟨_, hc4.below hx5⟩, ⟨_, hd5⟩, HB5, by have := blk_lt ha2.1; have := hx3.size; omega, by have := blk_lt hb3.1; have := hx4.size; omega⟩)
  clear ha2 hb3 hc4 hd5 HB1 HB2 HB3 HB4 HB5 hx3 hx4 hx5 hge4 hge5
  by_cases hbig : 100 < any.length
  · have d0 : decide ((100 : Int) < (any.length : Int)) = true := decide_eq_true (by omega)
    go_wp2_with fail
    go_ret
    exact ⟨rfl, hF.out.B⟩
  have d0 : decide ((100 : Int) < (any.length : Int)) = false := decide_eq_false (by omega)
  go_wp2_with fail
  clear d0
  go_loopg [16] any.length (fun kq v16 w' => ∃ (i : Nat) (x : Cv), v16 = .int .i64 (i : Int) ∧ i + kq = any.length ∧ x.l.length ≤ 100 ∧ Aside0 (Bt w w' ga gb gc gd x stp))
  case atStart => exact ⟨0, _, rfl, by omega, Nat.zero_le _, hF⟩
  case round =>
    clear hF
    obtain ⟨i, x, rfl, hik, hxl, hF⟩ := hrel
    by_cases h1 : i < any.length
    · obtain ⟨m, rfl⟩ : ∃ m, gk = m + 1 := ⟨gk - 1, by omega⟩
      have d1 : decide ((i : Int) < (any.length : Int)) = true := by simp; exact h1
      have p1 : 0 ≤ (i : Int) := by omega
      have q1 : (i : Int) < (any.length : Int) := by omega
      have e1 : (i : Int).toNat = i := Int.toNat_natCast i
      obtain ⟨ad, FB, fc, rfl, hx0, hx1, hx2, hx3, hx4, hx5, hx6, hfc, hFC⟩ := at31 hr0 i h1
      generalize rd31 any i = X at *
      have hX : At31 w (ad.add (i * 7)) X FB fc := ⟨hx0, hx1, hx2, hx3, hx4, hx5, hx6⟩
      have hY := hX.up hF.out.B
      clear hx0 hx1 hx2 hx3 hx4 hx5 hx6
      have hFC1 := Kd.C_below hFC hF.out.B
      obtain ⟨hx0, hx1, hx2, hx3, hx4, hx5, hx6⟩ := hY
      replace p1 := eq_true p1
      replace q1 := eq_true q1
      by_cases hb1 : 100 < X.f6.length
      · have d2 : decide ((100 : Int) < (X.f6.length : Int)) = true := decide_eq_true (by omega)
        go_wp2_with fail
        go_ret
        exact ⟨rfl, hF.out.B⟩
      have d2 : decide ((100 : Int) < (X.f6.length : Int)) = false := decide_eq_false (by omega)
      have hge := hF.out.B.size
      go_wp2_with (first | (at_builtin; refine Kd.R_append_rows k35 (w0 := wr) wr.heap.size rfl (.const (.slice none 0 0)) (.tmp 71) 29 35 (.agg #[.string ⟨#[]⟩, .string ⟨#[]⟩, .int .i64 0]) 40 rfl Tryd.underlying29 (by kernel_rfl) rfl (by decide) (by omega) (.slice none 0 0) [] X.f6 _ _ _ (fun _ => True) (fun _ => False) rfl rfl (Kd.R_nil _ _ _ _ _) ?aR (fun _ _ h => h) (fun _ h => h.elim) (fun _ _ => trivial) (Below.refl _ _) (Nat.le_refl _) ?aL ?_; (case aR => exact hFC1); (case aL => simp; omega); intro v1 w6 ho1 hb6 hg1 hat1; rw [List.nil_append] at ho1; obtain ⟨A6, c6, rfl⟩ := Kd.R_slice ho1; replace hx0 := cell_up hb6 hx0; replace hx1 := cell_up hb6 hx1; replace hx2 := cell_up hb6 hx2; replace hx3 := cell_up hb6 hx3; replace hx4 := cell_up hb6 hx4; replace hx5 := cell_up hb6 hx5; replace hx6 := cell_up hb6 hx6))
      have HA := below_alloc (Below.refl w6.heap.size w6) (.cells #[.int .i64 X.f0, .int .i64 X.f1, .int .i64 X.f2, .int .i64 X.f3, .int .i64 X.f4, .int .i64 X.f5, .slice A6 X.f6.length c6] 31)
      have hO := blk_new w6 (.cells #[.int .i64 X.f0, .int .i64 X.f1, .int .i64 X.f2, .int .i64 X.f3, .int .i64 X.f4, .int .i64 X.f5, .slice A6 X.f6.length c6] 31)
      have hB7 := hb6.trans (HA.mono hb6.size)
      have HF := Aside0.mk ((hF.out.mono (ok' := fun k => k < wr.heap.size ∨ (w6.alloc (.cells #[.int .i64 X.f0, .int .i64 X.f1, .int .i64 X.f2, .int .i64 X.f3, .int .i64 X.f4, .int .i64 X.f5, .slice A6 X.f6.length c6] 31)).heap.size ≤ k) (fun k _ hk => .inl hk)).below hB7)
      have hR := Kd.R_below ho1 HA
      have hE : Hid (∀ q, wr.heap.size ≤ q → q < w6.heap.size → q < (w6.alloc (.cells #[.int .i64 X.f0, .int .i64 X.f1, .int .i64 X.f2, .int .i64 X.f3, .int .i64 X.f4, .int .i64 X.f5, .slice A6 X.f6.length c6] 31)).heap.size) := Lib.hid (fun q _ h => Nat.lt_of_lt_of_le h HA.size)
      have hq6 := Lib.hid (fun hn => own35 ho1 hn)
      clear hx0 hx1 hx2 hx3 hx4 hx5 hx6 hFC1 hb6 hg1 hat1 HA hB7 ho1 hF d2
      revert hO HF hR hE
      generalize w6.alloc (.cells #[.int .i64 X.f0, .int .i64 X.f1, .int .i64 X.f2, .int .i64 X.f3, .int .i64 X.f4, .int .i64 X.f5, .slice A6 X.f6.length c6] 31) = w7
      generalize w6.heap.size = o at *
      intro hO HF hR hE
      obtain ⟨E, hEE⟩ : ∃ E, E = w7.heap.size := ⟨_, rfl⟩
      obtain ⟨b0, hb0⟩ : ∃ b0, b0 = wr.heap.size := ⟨_, rfl⟩
      rw [← hEE] at HF hE
      rw [← hb0] at HF hE hR hq6
      have hgb0 : w.heap.size ≤ b0 := by omega
      have hEle : Hid (E ≤ w7.heap.size) := Lib.hid (by omega)
      clear hEE hb0 hge
      have hc6 := (Kd.R_reads' hR).2.1
      refine start_ (n := 20) (S := fun w' => w'.cell? ⟨o, 0, none⟩ = some (.int .i64 X.f0) ∧ w'.cell? ⟨o, 1, none⟩ = some (.int .i64 X.f1) ∧ w'.cell? ⟨o, 2, none⟩ = some (.int .i64 X.f2) ∧ w'.cell? ⟨o, 3, none⟩ = some (.int .i64 X.f3) ∧ w'.cell? ⟨o, 4, none⟩ = some (.int .i64 X.f4) ∧ w'.cell? ⟨o, 5, none⟩ = some (.int .i64 X.f5) ∧ w'.cell? ⟨o, 6, none⟩ = some (.slice A6 X.f6.length c6) ∧ w'.cell? (ad.add (i * 7)) = some (.int .i64 X.f0) ∧ w'.cell? ⟨(ad.add (i * 7)).block, (ad.add (i * 7)).off + 1, none⟩ = some (.int .i64 X.f1) ∧ w'.cell? ⟨(ad.add (i * 7)).block, (ad.add (i * 7)).off + 2, none⟩ = some (.int .i64 X.f2) ∧ w'.cell? ⟨(ad.add (i * 7)).block, (ad.add (i * 7)).off + 3, none⟩ = some (.int .i64 X.f3) ∧ w'.cell? ⟨(ad.add (i * 7)).block, (ad.add (i * 7)).off + 4, none⟩ = some (.int .i64 X.f4) ∧ w'.cell? ⟨(ad.add (i * 7)).block, (ad.add (i * 7)).off + 5, none⟩ = some (.int .i64 X.f5) ∧ w'.cell? ⟨(ad.add (i * 7)).block, (ad.add (i * 7)).off + 6, none⟩ = some (.slice FB X.f6.length fc)) (ds := []) (bt 20 0) (by kernel_rfl) rfl (by kernel_rfl) (⟨(blk_cell hO 0).trans rfl, (blk_cell hO 1).trans rfl, (blk_cell hO 2).trans rfl, (blk_cell hO 3).trans rfl, (blk_cell hO 4).trans rfl, (blk_cell hO 5).trans rfl, (blk_cell hO 6).trans rfl, hX.up (HF.out.below (below_drew (Below.refl _ _))).B⟩) (fun hHeld => ?_)
      replace HF := Aside0.mk (HF.out.below (below_drew (Below.refl _ _)))
      replace hR := Kd.R_drew hR
      replace hO := blk_drew hO
      replace hEle : Hid (E ≤ w7.drew.heap.size) := hEle
      generalize w7.drew = w8 at *
      refine py 0 79 (bt 20 1) rfl rfl (h := ?_)
      refine ty 1 80 (bt 20 3) rfl rfl hHeld (h := ?_)
      refine py 3 82 (bt 20 11) rfl rfl (h := ?_)
      refine py 4 83 (bt 20 27) rfl rfl (h := ?_)
      refine py 5 84 (bt 20 59) rfl rfl (h := ?_)
      refine py 6 85 (bt 20 123) rfl rfl (h := ?_)
      refine ty 7 86 (bt 20 251) rfl rfl hHeld (h := ?_)
      refine oc 2 81 (bt 20 255) #[.pointer (some ⟨ga, 0, none⟩), msgV X A6 c6] (prec ga x X A6 c6 w w8 HF.out.ha HF.out.B (Kd.R_reads' hR).2.2 hc6 (by omega) (fun k hk => .inr (Nat.le_trans hEle.out hk))) rfl rfl rfl Tryd.func11 (fun e w9 hP => ?_)
      obtain ⟨rfl, hA9, hB9, hK9⟩ := hP
      obtain ⟨cga, hga⟩ := HF.out.ha.blk
      have hoa := HF.out.ha.ne hO (by decide)
      replace HF := Aside0.mk (HF.out.setA hA9 hB9 hK9)
      replace hR := keep35 hR hga (by decide) hK9
      replace hO := keep_blk hK9 hO hoa
      replace hEle : Hid (E ≤ w9.heap.size) := Lib.hid (Nat.le_trans hEle.out hK9.1)
      clear hA9 hB9 hK9 hga hoa cga hHeld
      refine ⟨_, rfl, ⟨(blk_cell hO 0).trans rfl, (blk_cell hO 1).trans rfl, (blk_cell hO 2).trans rfl, (blk_cell hO 3).trans rfl, (blk_cell hO 4).trans rfl, (blk_cell hO 5).trans rfl, (blk_cell hO 6).trans rfl, hX.up HF.out.B⟩, fun hHeld => ny (h := ?_)⟩
      refine oc 8 87 (bt 20 511) #[.pointer (some ⟨gb, 0, none⟩), msgV X FB fc] (drec gb x X FB fc w w9 HF.out.hb HF.out.B (Kd.C_below hFC HF.out.B) hfc (by omega) (fun k hk => .inr (Nat.le_trans hEle.out hk)) (fun ad' he hn => by have := C_lt hFC ad' he hn; have := HF.out.hb.ge; omega)) rfl rfl rfl Tryd.func12 (fun e w10 hP => ?_)
      obtain ⟨rfl, hA9, hB9, hK9⟩ := hP
      obtain ⟨cga, hga⟩ := HF.out.hb.blk
      have hoa := HF.out.hb.ne hO (by decide)
      replace HF := Aside0.mk (HF.out.setB hA9 hB9 hK9)
      replace hR := keep35 hR hga (by decide) hK9
      replace hO := keep_blk hK9 hO hoa
      replace hEle : Hid (E ≤ w10.heap.size) := Lib.hid (Nat.le_trans hEle.out hK9.1)
      clear hA9 hB9 hK9 hga hoa cga hHeld
      refine ⟨_, rfl, ⟨(blk_cell hO 0).trans rfl, (blk_cell hO 1).trans rfl, (blk_cell hO 2).trans rfl, (blk_cell hO 3).trans rfl, (blk_cell hO 4).trans rfl, (blk_cell hO 5).trans rfl, (blk_cell hO 6).trans rfl, hX.up HF.out.B⟩, fun hHeld => ny (h := ?_)⟩
      refine py (v := .bool false) 9 88 (bt 20 1023) rfl rfl (hv := by intro w'; go_simp) (h := ?_)
      refine py 10 89 (bt 20 2047) rfl rfl (h := ?_)
      refine py 11 90 (bt 20 4095) rfl rfl (h := ?_)
      refine py 12 91 (bt 20 8191) rfl rfl (h := ?_)
      refine py 13 92 (bt 20 16383) rfl rfl (h := ?_)
      refine py 14 93 (bt 20 32767) rfl rfl (h := ?_)
      refine py 15 94 (bt 20 65535) rfl rfl (h := ?_)
      refine ty 16 95 (bt 20 131071) rfl rfl hHeld (h := ?_)
      refine oc 17 96 (bt 20 262143) #[.slice A6 X.f6.length c6, .slice FB X.f6.length fc] (lsame_any A6 FB c6 fc X.f6 w10 (Kd.R_reads' hR).2.2 hc6 (Kd.C_below hFC HF.out.B) hfc (by omega)) rfl rfl rfl Tryd.func13 (fun e w11 hP => ?_)
      obtain ⟨rfl, hb11⟩ := hP
      replace HF := Aside0.mk (HF.out.below hb11.below)
      replace hR := Kd.R_below hR hb11.below
      replace hO := blk_below hO hb11.below
      clear hb11 hHeld
      refine ⟨_, rfl, ⟨(blk_cell hO 0).trans rfl, (blk_cell hO 1).trans rfl, (blk_cell hO 2).trans rfl, (blk_cell hO 3).trans rfl, (blk_cell hO 4).trans rfl, (blk_cell hO 5).trans rfl, (blk_cell hO 6).trans rfl, hX.up HF.out.B⟩, fun hHeld => ny (h := ?_)⟩
      refine py 18 97 (bt 20 524287) rfl rfl (h := ?_)
      refine py 19 98 (bt 20 1048575) rfl rfl (h := ?_)
      refine done_ (by kernel_rfl) ?_
      have hzl := nxt_len hxl (show X.f6.length ≤ 100 by omega)
      have HW := Aside0.mk (show Ow _ w w11 ga gb gc gd (nxt x X) stp b0 A6 X.f6.length c6 from ⟨HF.out, _, rfl, hR⟩)
      clear HF hR hO hHeld hEle hc6 hX hxl
      generalize nxt x X = z at *
      generalize X.f6.length = n6 at *
      go_wp2_with fail
      go_loopg [19] n6 (fun kq v19 w' => ∃ (j : Nat), v19 = .int .i64 (j : Int) ∧ j + kq = n6 ∧ Aside0 (Ow (fun k => k < b0 ∨ E ≤ k) w w' ga gb gc gd z stp b0 A6 n6 c6))
      case atStart => exact ⟨0, rfl, by omega, HW⟩
      case round =>
        clear HW
        obtain ⟨j, rfl, hjk, HW⟩ := hrel
        by_cases h2 : j < n6
        · obtain ⟨m2, rfl⟩ : ∃ m2, gk = m2 + 1 := ⟨gk - 1, by omega⟩
          have d3 : decide ((j : Int) < (n6 : Int)) = true := by simp; exact h2
          have p3 : (0 ≤ (j : Int)) = True := eq_true (by omega)
          have q3 : ((j : Int) < (n6 : Int)) = True := eq_true (by omega)
          have e3 : (j : Int).toNat = j := Int.toNat_natCast j
          obtain ⟨q, rfl, hq1, hq2⟩ := hq6.out (by omega)
          replace hq2 := hE.out q hq1 hq2
          obtain ⟨hG, l', hl', hR⟩ := HW.out
          obtain ⟨⟨u, hu⟩, hfu, hR2⟩ := setCount hR h2 (-1)
          obtain ⟨cs, hqb⟩ := blk35 hR (by omega)
          have hG2 := hG.far (j := j * 3 + 2) hqb (by omega) (fun k hk => by omega) (.int .i64 (-1))
          clear HW hG hR
          go_wp2_with fail
          go_roundg m2
          case measure => omega
          case rel => exact ⟨j + 1, by rw [Int.natCast_add]; rfl, by omega, Aside0.mk ⟨hG2, _, by rw [List.length_set]; exact hl', hR2⟩⟩
        · have d3 : decide ((j : Int) < (n6 : Int)) = false := by simp; omega
          obtain ⟨hG, -⟩ := HW.out
          clear HW
          replace hG := hG.mono (ok' := fun _ => True) (fun _ _ _ => trivial)
          have hgs := hG.B.size
          go_wp2_with fail
          refine (prep ga z w _ hG.ha hgs (by omega)).mono ?_; rintro ee w12 ⟨RA, ca, rfl, hca, hRA, hb12⟩
          replace hG := hG.below hb12
          clear hb12 hgs
          have hgs := hG.B.size
          go_wp2_with fail
          refine (drep gb z w w12 hG.hb hgs (by omega)).mono ?_; rintro ee w13 ⟨RB, cb, rfl, hcb, hRB, hb13⟩
          replace hG := hG.below hb13
          replace hRA := hRA.below hb13
          clear hb13 hgs
          go_wp2_with fail
          refine (msame_any 2 z.n z.b z.e z.v z.u RA RB ca cb z.l w13 hRA.C hca hRB.C hcb (by omega)).mono ?_; rintro ee w14 ⟨rfl, hb14⟩
          replace hG := hG.below hb14
          clear hb14 hRA hRB hca hcb
          have hgs := hG.B.size
          go_wp2_with fail
          refine (prun ga z now w w14 hG.ha hgs (by omega)).mono ?_; rintro ee w15 ⟨RA, ca, rfl, hca, hRA, hb15⟩
          replace hG := hG.below hb15
          clear hb15 hgs
          have hgs := hG.B.size
          go_wp2_with fail
          refine (drun gb z now w w15 hG.hb hgs (by omega)).mono ?_; rintro ee w16 ⟨RB, cb, rfl, hcb, hRB, hb16⟩
          replace hG := hG.below hb16
          replace hRA := hRA.below hb16
          clear hb16 hgs
          have hrl := run_len z now
          generalize runS now z.u z.l = rs at *
          go_wp2_with fail
          refine (lsame_any RA RB ca cb rs w16 hRA.C hca hRB.C hcb (by omega)).mono ?_; rintro ee w17 ⟨rfl, hb17⟩
          replace hG := hG.below hb17.below
          clear hb17 hRA hRB hca hcb hrl
          go_wp2_with fail
          go_roundg m
          case measure => omega
          case rel => exact ⟨i + 1, z, by rw [Int.natCast_add]; rfl, by omega, hzl, Aside0.mk hG⟩
    · have d1 : decide ((i : Int) < (any.length : Int)) = false := by simp; omega
      go_wp2_with fail
      clear d1
      go_loopg [20] 60 (fun kq v20 w' => ∃ (k : Nat) (y : Cv), v20 = .int .i64 (k : Int) ∧ k + kq = 60 ∧ y.l.length ≤ 100 ∧ Aside0 (Bt w w' ga gb gc gd x y))
      case atStart => exact ⟨0, stp, rfl, by omega, Nat.zero_le _, hF⟩
      case round =>
        clear hF
        obtain ⟨k, y, rfl, hkk, hyl, hF⟩ := hrel
        by_cases h2 : k < l.length ∧ k < 60
        · obtain ⟨m, rfl⟩ : ∃ m, gk = m + 1 := ⟨gk - 1, by omega⟩
          have d2 : decide ((k : Int) < (l.length : Int)) = true := by simp; exact h2.1
          have d3 : decide ((k : Int) < 60) = true := by simp; omega
          have e1 : (k : Int).toNat = k := Int.toNat_natCast k
          obtain ⟨ad, FB, fc, rfl, hx0, hx1, hx2, hx3, hx4, hx5, hx6, hfc, hFC⟩ := at42 hr1 k h2.1
          have hI := hV _ (rd42_mem h2.1)
          generalize rd42 l k = X at *
          have hX : At42 w (ad.add (k * 7)) X FB fc := ⟨hx0, hx1, hx2, hx3, hx4, hx5, hx6⟩
          clear hx0 hx1 hx2 hx3 hx4 hx5 hx6
          have p1 : (0 ≤ (k : Int)) = True := eq_true (by omega)
          have q1 : ((k : Int) < (l.length : Int)) = True := eq_true (by omega)
          have hI' := Lib.hid hI
          clear hI
          go_wp2_with fail
          refine start_ (n := 33) (S := fun w' => w'.cell? (ad.add (k * 7)) = some (.int .i64 X.f0) ∧ w'.cell? ⟨(ad.add (k * 7)).block, (ad.add (k * 7)).off + 1, none⟩ = some (.int .i64 X.f1) ∧ w'.cell? ⟨(ad.add (k * 7)).block, (ad.add (k * 7)).off + 2, none⟩ = some (.int .i64 X.f2) ∧ w'.cell? ⟨(ad.add (k * 7)).block, (ad.add (k * 7)).off + 3, none⟩ = some (.int .i64 X.f3) ∧ w'.cell? ⟨(ad.add (k * 7)).block, (ad.add (k * 7)).off + 4, none⟩ = some (.int .i64 X.f4) ∧ w'.cell? ⟨(ad.add (k * 7)).block, (ad.add (k * 7)).off + 5, none⟩ = some (.int .i64 X.f5) ∧ w'.cell? ⟨(ad.add (k * 7)).block, (ad.add (k * 7)).off + 6, none⟩ = some (.slice FB X.f6.length fc)) (ds := []) (bt 33 0) (by kernel_rfl) rfl (by kernel_rfl) (hX.up (hF.out.below (below_drew (Below.refl _ _))).B) (fun hHeld => ?_)
          have HF := Aside0.mk (F4.below hF.out (below_drew (Below.refl _ _)))
          clear hF
          generalize wr.drew = w8 at *
          refine py 0 135 (bt 33 1) rfl rfl (h := ?_)
          refine py 1 136 (bt 33 3) rfl rfl (h := ?_)
          refine py 2 137 (bt 33 7) rfl rfl (h := ?_)
          refine py 3 138 (bt 33 15) rfl rfl (h := ?_)
          refine ty 4 139 (bt 33 31) rfl rfl hHeld (h := ?_)
          refine py 7 142 (bt 33 159) rfl rfl (h := ?_)
          refine py 8 143 (bt 33 415) rfl rfl (h := ?_)
          refine py 9 144 (bt 33 927) rfl rfl (h := ?_)
          refine py 10 145 (bt 33 1951) rfl rfl (h := ?_)
          refine ty 11 146 (bt 33 3999) rfl rfl hHeld (h := ?_)
          have hfl := fbS_len X.f6
          refine oc 5 140 (bt 33 4031) #[.agg #[.int .i64 X.f0, .int .i64 X.f1, .int .i64 X.f2, .int .i64 X.f3, .int .i64 X.f4, .int .i64 X.f5, .slice FB X.f6.length fc]] (fit_any X.f0 X.f1 X.f2 X.f3 X.f4 X.f5 FB fc X.f6 _ (Kd.C_below hFC HF.out.B) hfc hI'.out) rfl rfl rfl Tryd.func19 (fun e w9 hP => ?_)
          obtain ⟨MB, md, rfl, hM, hb⟩ := hP
          replace HF := Aside0.mk (HF.out.below hb)
          have hmd := (Kd.R_reads' hM).2.1
          clear hb hHeld
          refine ⟨_, rfl, hX.up HF.out.B, fun hHeld => ny (h := ?_)⟩
          refine oc 6 141 (bt 33 4095) #[.pointer (some ⟨gc, 0, none⟩), msgV ⟨kdS X.f0, clS X.f1, pk X.f2 3, pk X.f3 5, pk X.f4 7, pk X.f5 60, fbS X.f6⟩ MB md] (prec gc y ⟨kdS X.f0, clS X.f1, pk X.f2 3, pk X.f3 5, pk X.f4 7, pk X.f5 60, fbS X.f6⟩ MB md w _ HF.out.hc HF.out.B (Kd.R_reads' hM).2.2 hmd (Nat.le_trans hfl (by decide)) (fun _ _ => trivial)) rfl rfl rfl Tryd.func11 (fun e w9 hP => ?_)
          obtain ⟨rfl, hA9, hB9, hK9⟩ := hP
          replace HF := Aside0.mk (HF.out.setC hA9 hB9 hK9)
          clear hA9 hB9 hK9 hM hmd hHeld
          refine ⟨_, rfl, hX.up HF.out.B, fun hHeld => ny (h := ?_)⟩
          refine oc 12 147 (bt 33 8191) #[.agg #[.int .i64 X.f0, .int .i64 X.f1, .int .i64 X.f2, .int .i64 X.f3, .int .i64 X.f4, .int .i64 X.f5, .slice FB X.f6.length fc]] (fit_any X.f0 X.f1 X.f2 X.f3 X.f4 X.f5 FB fc X.f6 _ (Kd.C_below hFC HF.out.B) hfc hI'.out) rfl rfl rfl Tryd.func19 (fun e w9 hP => ?_)
          obtain ⟨MB, md, rfl, hM, hb⟩ := hP
          replace HF := Aside0.mk (HF.out.below hb)
          have hmd := (Kd.R_reads' hM).2.1
          clear hb hHeld
          refine ⟨_, rfl, hX.up HF.out.B, fun hHeld => ny (h := ?_)⟩
          refine oc 13 148 (bt 33 16383) #[.pointer (some ⟨gd, 0, none⟩), msgV ⟨kdS X.f0, clS X.f1, pk X.f2 3, pk X.f3 5, pk X.f4 7, pk X.f5 60, fbS X.f6⟩ MB md] (drec gd y ⟨kdS X.f0, clS X.f1, pk X.f2 3, pk X.f3 5, pk X.f4 7, pk X.f5 60, fbS X.f6⟩ MB md w _ HF.out.hd HF.out.B (Kd.R_reads' hM).2.2 hmd (Nat.le_trans hfl (by decide)) (fun _ _ => trivial) (far35 hM HF.out.hd)) rfl rfl rfl Tryd.func12 (fun e w9 hP => ?_)
          obtain ⟨rfl, hA9, hB9, hK9⟩ := hP
          replace HF := Aside0.mk (HF.out.setD hA9 hB9 hK9)
          clear hA9 hB9 hK9 hM hmd hHeld
          have hzl := nxt_len (m := ⟨kdS X.f0, clS X.f1, pk X.f2 3, pk X.f3 5, pk X.f4 7, pk X.f5 60, fbS X.f6⟩) hyl (Nat.le_trans hfl (by decide))
          refine ⟨_, rfl, hX.up HF.out.B, fun hHeld => ny (h := ?_)⟩
          refine py (v := .bool false) 14 149 (bt 33 32767) rfl rfl (hv := by intro w'; go_simp) (h := ?_)
          refine py 15 150 (bt 33 65535) rfl rfl (h := ?_)
          generalize nxt y ⟨kdS X.f0, clS X.f1, pk X.f2 3, pk X.f3 5, pk X.f4 7, pk X.f5 60, fbS X.f6⟩ = z at *
          refine py 16 151 (bt 33 131071) rfl rfl (h := ?_)
          refine py 18 153 (bt 33 393215) rfl rfl (h := ?_)
          refine oc 17 152 (bt 33 524287) #[.pointer (some ⟨gc, 0, none⟩)] (prep gc z w _ HF.out.hc HF.out.B.size (by omega)) rfl rfl rfl Tryd.func15 (fun e w9 hP => ?_)
          obtain ⟨RA, ca, rfl, hca, hRA, hb⟩ := hP
          replace HF := Aside0.mk (HF.out.below hb)
          clear hb hHeld
          refine ⟨_, rfl, hX.up HF.out.B, fun hHeld => ny (h := ?_)⟩
          refine oc 19 154 (bt 33 1048575) #[.pointer (some ⟨gd, 0, none⟩)] (drep gd z w _ HF.out.hd HF.out.B.size (by omega)) rfl rfl rfl Tryd.func16 (fun e w9 hP => ?_)
          obtain ⟨RB, cb, rfl, hcb, hRB, hb⟩ := hP
          replace HF := Aside0.mk (HF.out.below hb)
          replace hRA := hRA.below hb
          clear hb hHeld
          refine ⟨_, rfl, hX.up HF.out.B, fun hHeld => ny (h := ?_)⟩
          refine oc 20 155 (bt 33 2097151) #[msgV ⟨2, z.n, z.b, z.e, z.v, z.u, z.l⟩ RA ca, msgV ⟨2, z.n, z.b, z.e, z.v, z.u, z.l⟩ RB cb] (msame_any 2 z.n z.b z.e z.v z.u RA RB ca cb z.l _ hRA.C hca hRB.C hcb (by omega)) rfl rfl rfl Tryd.func14 (fun e w9 hP => ?_)
          obtain ⟨rfl, hb⟩ := hP
          replace HF := Aside0.mk (HF.out.below hb)
          clear hb hHeld hRA hRB hca hcb
          refine ⟨_, rfl, hX.up HF.out.B, fun hHeld => ny (h := ?_)⟩
          refine py 21 156 (bt 33 4194303) rfl rfl (h := ?_)
          refine py 22 157 (bt 33 8388607) rfl rfl (h := ?_)
          refine py 23 158 (bt 33 16777215) rfl rfl (h := ?_)
          refine py 24 159 (bt 33 33554431) rfl rfl (h := ?_)
          refine py 25 160 (bt 33 67108863) rfl rfl (h := ?_)
          refine py 27 162 (bt 33 201326591) rfl rfl (h := ?_)
          refine py 28 163 (bt 33 469762047) rfl rfl (h := ?_)
          have hrl := run_len z now
          refine oc 26 161 (bt 33 536870911) #[.pointer (some ⟨gc, 0, none⟩), .int .i64 now] (prun gc z now w _ HF.out.hc HF.out.B.size (by omega)) rfl rfl rfl Tryd.func17 (fun e w9 hP => ?_)
          obtain ⟨RA, ca, rfl, hca, hRA, hb⟩ := hP
          replace HF := Aside0.mk (HF.out.below hb)
          clear hb hHeld
          refine ⟨_, rfl, hX.up HF.out.B, fun hHeld => ny (h := ?_)⟩
          refine oc 29 164 (bt 33 1073741823) #[.pointer (some ⟨gd, 0, none⟩), .int .i64 now] (drun gd z now w _ HF.out.hd HF.out.B.size (by omega)) rfl rfl rfl Tryd.func18 (fun e w9 hP => ?_)
          obtain ⟨RB, cb, rfl, hcb, hRB, hb⟩ := hP
          replace HF := Aside0.mk (HF.out.below hb)
          replace hRA := hRA.below hb
          clear hb hHeld
          refine ⟨_, rfl, hX.up HF.out.B, fun hHeld => ny (h := ?_)⟩
          refine oc 30 165 (bt 33 2147483647) #[.slice RA (runS now z.u z.l).length ca, .slice RB (runS now z.u z.l).length cb] (lsame_any RA RB ca cb (runS now z.u z.l) _ hRA.C hca hRB.C hcb (by omega)) rfl rfl rfl Tryd.func13 (fun e w9 hP => ?_)
          obtain ⟨rfl, hb⟩ := hP
          replace HF := Aside0.mk (HF.out.below hb.below)
          clear hb hHeld hRA hRB hca hcb hrl
          refine ⟨_, rfl, hX.up HF.out.B, fun hHeld => ny (h := ?_)⟩
          refine py 31 166 (bt 33 4294967295) rfl rfl (h := ?_)
          refine py 32 167 (bt 33 8589934591) rfl rfl (h := ?_)
          refine done_ (by kernel_rfl) ?_
          clear hHeld hX
          go_wp2_with fail
          go_roundg m
          case measure => omega
          case rel => exact ⟨k + 1, z, by rw [Int.natCast_add]; rfl, by omega, hzl, HF⟩
        · by_cases h3 : k < l.length
          · have d2 : decide ((k : Int) < (l.length : Int)) = true := by simp; exact h3
            have d3 : decide ((k : Int) < 60) = false := by simp; omega
            have hG : F4 (fun _ => True) w wr ga gb gc gd x x y y := hF.out
            clear hF
            have hgs := hG.B.size
            go_wp2_with fail
            refine (prep ga x w _ hG.ha hgs (by omega)).mono ?_; rintro ee w12 ⟨RA, ca, rfl, hca, hRA, hb12⟩
            replace hG := hG.below hb12
            clear hb12 hgs
            have hgs := hG.B.size
            go_wp2_with fail
            refine (drep gb x w w12 hG.hb hgs (by omega)).mono ?_; rintro ee w13 ⟨RB, cb, rfl, hcb, hRB, hb13⟩
            replace hG := hG.below hb13
            replace hRA := hRA.below hb13
            clear hb13 hgs
            go_wp2_with fail
            refine (msame_any 2 x.n x.b x.e x.v x.u RA RB ca cb x.l w13 hRA.C hca hRB.C hcb (by omega)).mono ?_; rintro ee w14 ⟨rfl, hb14⟩
            replace hG := hG.below hb14
            go_wp2_with fail
            go_ret
            exact ⟨rfl, hG.B⟩
          · have d2 : decide ((k : Int) < (l.length : Int)) = false := by simp; omega
            have hG : F4 (fun _ => True) w wr ga gb gc gd x x y y := hF.out
            clear hF
            have hgs := hG.B.size
            go_wp2_with fail
            refine (prep ga x w _ hG.ha hgs (by omega)).mono ?_; rintro ee w12 ⟨RA, ca, rfl, hca, hRA, hb12⟩
            replace hG := hG.below hb12
            clear hb12 hgs
            have hgs := hG.B.size
            go_wp2_with fail
            refine (drep gb x w w12 hG.hb hgs (by omega)).mono ?_; rintro ee w13 ⟨RB, cb, rfl, hcb, hRB, hb13⟩
            replace hG := hG.below hb13
            replace hRA := hRA.below hb13
            clear hb13 hgs
            go_wp2_with fail
            refine (msame_any 2 x.n x.b x.e x.v x.u RA RB ca cb x.l w13 hRA.C hca hRB.C hcb (by omega)).mono ?_; rintro ee w14 ⟨rfl, hb14⟩
            replace hG := hG.below hb14
            go_wp2_with fail
            go_ret
            exact ⟨rfl, hG.B⟩
theorem plays_row (n boot : Int) (A0 : Option Addr) (c0 : Nat) (any : List S31) (A1 : Option Addr) (c1 : Nat) (l : List S42) (now : Int) (w : World) (hn : (Lit.int .i64 n).wf = true) (hb : (Lit.int .i64 boot).wf = true) (hr0 : Kd.C k31 w A0 any.length any) (hc0 : any.length ≤ c0) {P0 : Prop} (hV0 : P0) (hr1 : Kd.C k42 w A1 l.length l) (hc1 : l.length ≤ c1) {p q : Prop} {a0 a1 a2 a3 a4 a5 a6 a7 : S42 → Prop} (hV : p ∧ q ∧ ∀ x ∈ l, a0 x ∧ a1 x ∧ a2 x ∧ a3 x ∧ a4 x ∧ a5 x ∧ a6 x ∧ a7 x ∧ ∀ y ∈ x.f6, (Lit.int .i64 y).wf = true) (hnow : (Lit.int .i64 now).wf = true) :
    Calls Tryd.prog 3 #[.int .i64 n, .int .i64 boot, .slice A0 any.length c0, .slice A1 l.length c1, .int .i64 now] w fun e w' => e = .returned (.bool true) ∧ Below w.heap.size w w' :=
  plays n boot A0 c0 any A1 c1 l now w hr0 hc0 hr1 hc1 (fun x hx y hy => wf_i64 ((hV.2.2 x hx).2.2.2.2.2.2.2.2 y hy))
end Go.Proofs.YtpgifeoigconbaaDoor.Cl
