/- The document's cell: Receive. -/
import Derived.Test.YtpgifeoigconbaaDoorRc
import Derived.Test.YtpgifeoigconbaaDoorRg
namespace Go.Proofs.YtpgifeoigconbaaDoor.Cl
set_option linter.unusedVariables false
set_option linter.unusedSimpArgs false
open Go.RowKit Go.Proofs.YtpgifeoigconbaaDoorW.PrintWords Go.Proofs.YtpgifeoigconbaaDoorW.PrintLast Go.Proofs.YtpgifeoigconbaaDoor.Mo Go.Proofs.YtpgifeoigconbaaDoor.Q
variable {ok : Nat → Prop}
attribute [local go_sem] max2_int min2_int max_two min_two max_three min_three max_four min_four
/-- a row of binds stays read whatever happens to a block where it does not lie -/
theorem foot35 {w : World} {A : Option Addr} {n g : Nat} {xs : List S35} (h : Kd.C k35 w A n xs) (hf : ∀ ad, A = some ad → 0 < n → ad.block ≠ g) (W' : World) (hk : KeepBut w W' g none) : Kd.C k35 W' A n xs := by
  refine ⟨h.1, h.2.1, fun hn => ?_⟩
  obtain ⟨ad, he, hc⟩ := h.2.2 hn
  refine ⟨ad, he, fun j p hj => ?_⟩
  obtain ⟨cs, h1, h2, h3⟩ := hc j p hj
  exact ⟨cs, h1, h2, fun i u hu => keep_cell hk (h3 i u hu) (by rw [add_block]; exact hf ad he hn)⟩
theorem Does.drewN {t : Nat} {w0 w W : World} {g : Nat} {n b e v u : Int} {bs : List S35} (h : Does ok t w0 w W g n b e v u bs) (m : Nat) : Does ok t w0 w (W.drewN m) g n b e v u bs := by
  obtain ⟨⟨V, h1, h2, h3⟩, hB, hk⟩ := h
  exact ⟨⟨V, h1, h2, Kd.R_drewN h3 m⟩, pw_below_drewN hB m, hk⟩
theorem done_rgreet {w0 w w3 : World} {g : Nat} {n b e v u : Int} {V : Value} {bs : List S35} {me mv : Int} (h : Ce ok 53 w0 w g n b e v u V bs) (hB : Below w0.heap.size w0 w) (hG3 : w3.heap[g]? = some (.cells #[.int .i64 n, .int .i64 b, .int .i64 e, .int .i64 v, .int .i64 u, V] 53 (0, 0))) (hb : Below w.heap.size w w3) :
    Does ok 53 w0 w ((w3.setCell ⟨g, 2, none⟩ (.int .i64 me)).setCell ⟨g, 3, none⟩ (.int .i64 mv)) g n b me mv u bs := by
  have hge : w0.heap.size ≤ (⟨g, 2, none⟩ : Addr).block := h.2.1
  have hge3 : w0.heap.size ≤ (⟨g, 3, none⟩ : Addr).block := h.2.1
  have hR := Kd.R_below h.2.2 hb
  have h2 := blk_put hG3 2 (.int .i64 me) rfl
  have h3 := blk_put h2 3 (.int .i64 mv) rfl
  refine ⟨⟨V, h3, h.2.1, Kd.R_far (Kd.R_far hR (p := ⟨g, 2, none⟩) (fun k hk => hk.1) _) (p := ⟨g, 3, none⟩) (fun k hk => hk.1) _⟩, ((hB.trans (hb.mono hB.size)).setCell (p := ⟨g, 2, none⟩) hge _).setCell (p := ⟨g, 3, none⟩) hge3 _, ?_, fun i hi hne _ => ?_⟩
  · have := hb.size
    simpa [World.setCell] using this
  · exact (Below.heap_setCell _ ⟨g, 3, none⟩ _ i hne).trans ((Below.heap_setCell _ ⟨g, 2, none⟩ _ i hne).trans (hb.block i hi))
section
variable (g : Nat) (n b e v u : Int) (V : Value) (bs : List S35) (mk mc mb me mv mu : Int) (A : Option Addr) (c : Nat) (mbs : List S35) (w0 w : World)
set_option maxHeartbeats 4000000 in
theorem rrecv_wrong (h : Ce ok 53 w0 w g n b e v u V bs) (hB : Below w0.heap.size w0 w) (hC : Kd.C k35 w A mbs.length mbs) (hc : mbs.length ≤ c) (hml : mbs.length ≤ 2000000000000) (hr : Rt.rightS mk mc mb me mv mu mbs = false) :
    Calls Tryd.prog 12 #[.pointer (some ⟨g, 0, none⟩), .agg #[.int .i64 mk, .int .i64 mc, .int .i64 mb, .int .i64 me, .int .i64 mv, .int .i64 mu, .slice A mbs.length c]] w fun ee w' => ee = .returned (.bool false) ∧ Does ok 53 w0 w w' g n b e v u bs := by
  have HBa := below_alloc (Below.refl w.heap.size w) (.cells #[.int .i64 mk, .int .i64 mc, .int .i64 mb, .int .i64 me, .int .i64 mv, .int .i64 mu, .slice A mbs.length c] 31)
  have hO := heap_alloc_new w (.cells #[.int .i64 mk, .int .i64 mc, .int .i64 mb, .int .i64 me, .int .i64 mv, .int .i64 mu, .slice A mbs.length c] 31)
  have h1 := Ce.below h HBa
  have hC1 := Kd.C_below hC HBa
  go_enter Tryd.func12, Tryd.ntmps12
  go_upto_region 1 with fail
  revert HBa hO h1 hC1
  generalize hw0 : w.heap.size = o at *
  generalize w.alloc (.cells #[.int .i64 mk, .int .i64 mc, .int .i64 mb, .int .i64 me, .int .i64 mv, .int .i64 mu, .slice A mbs.length c] 31) = wa at *
  intro HBa hO h1 hC1
  have p0 := (blk_cell hO 0).trans rfl
  have p1 := (blk_cell hO 1).trans rfl
  have p2 := (blk_cell hO 2).trans rfl
  have p3 := (blk_cell hO 3).trans rfl
  have p4 := (blk_cell hO 4).trans rfl
  have p5 := (blk_cell hO 5).trans rfl
  have p6 := (blk_cell hO 6).trans rfl
  go_upto_region 2 with (go_at_call 24; refine (billetref16_Right.calls (2 * mbs.length + 22) mk mc mb me mv mu A c mbs false wa hC1 hc (by rw [Rt.ref_right_eq mbs, hr])).mono ?_; rintro ee w2 ⟨rfl, hb2⟩; have hO2 := (hb2.block o (blk_lt hO)).trans hO; have hG2 := (hb2.block g (blk_lt h1.1)).trans h1.1; have q0 := (blk_cell hO2 0).trans rfl; have q1 := (blk_cell hO2 1).trans rfl; have q2 := (blk_cell hO2 2).trans rfl; have q3 := (blk_cell hO2 3).trans rfl; have q4 := (blk_cell hO2 4).trans rfl; have q5 := (blk_cell hO2 5).trans rfl; have q6 := (blk_cell hO2 6).trans rfl; have y0 := (blk_cell hG2 0).trans rfl; have y1 := (blk_cell hG2 1).trans rfl; have y2 := (blk_cell hG2 2).trans rfl; have y3 := (blk_cell hG2 3).trans rfl; have y4 := (blk_cell hG2 4).trans rfl; have y5 := (blk_cell hG2 5).trans rfl)
  subst hw0
  have hbw := HBa.trans (hb2.mono HBa.size)
  go_quiet (fail)
  go_wp2_with fail
  go_ret
  exact ⟨rfl, Does.same h hB (by first | exact hbw | exact pw_below_drewN hbw _ | exact pw_below_drewN (pw_below_drewN hbw _) _)⟩
set_option maxHeartbeats 4000000 in
theorem rrecv_kind (h : Ce ok 53 w0 w g n b e v u V bs) (hB : Below w0.heap.size w0 w) (hC : Kd.C k35 w A mbs.length mbs) (hc : mbs.length ≤ c) (hml : mbs.length ≤ 2000000000000) (hr : Rt.rightS mk mc mb me mv mu mbs = true) (hk : mk ≠ 1) :
    Calls Tryd.prog 12 #[.pointer (some ⟨g, 0, none⟩), .agg #[.int .i64 mk, .int .i64 mc, .int .i64 mb, .int .i64 me, .int .i64 mv, .int .i64 mu, .slice A mbs.length c]] w fun ee w' => ee = .returned (.bool false) ∧ Does ok 53 w0 w w' g n b e v u bs := by
  have HBa := below_alloc (Below.refl w.heap.size w) (.cells #[.int .i64 mk, .int .i64 mc, .int .i64 mb, .int .i64 me, .int .i64 mv, .int .i64 mu, .slice A mbs.length c] 31)
  have hO := heap_alloc_new w (.cells #[.int .i64 mk, .int .i64 mc, .int .i64 mb, .int .i64 me, .int .i64 mv, .int .i64 mu, .slice A mbs.length c] 31)
  have h1 := Ce.below h HBa
  have hC1 := Kd.C_below hC HBa
  have t1 : (mk != 1) = true := by simpa using hk
  clear hk
  go_enter Tryd.func12, Tryd.ntmps12
  go_upto_region 1 with fail
  revert HBa hO h1 hC1
  generalize hw0 : w.heap.size = o at *
  generalize w.alloc (.cells #[.int .i64 mk, .int .i64 mc, .int .i64 mb, .int .i64 me, .int .i64 mv, .int .i64 mu, .slice A mbs.length c] 31) = wa at *
  intro HBa hO h1 hC1
  have p0 := (blk_cell hO 0).trans rfl
  have p1 := (blk_cell hO 1).trans rfl
  have p2 := (blk_cell hO 2).trans rfl
  have p3 := (blk_cell hO 3).trans rfl
  have p4 := (blk_cell hO 4).trans rfl
  have p5 := (blk_cell hO 5).trans rfl
  have p6 := (blk_cell hO 6).trans rfl
  go_upto_region 2 with (go_at_call 24; refine (billetref16_Right.calls (2 * mbs.length + 22) mk mc mb me mv mu A c mbs true wa hC1 hc (by rw [Rt.ref_right_eq mbs, hr])).mono ?_; rintro ee w2 ⟨rfl, hb2⟩; have hO2 := (hb2.block o (blk_lt hO)).trans hO; have hG2 := (hb2.block g (blk_lt h1.1)).trans h1.1; have q0 := (blk_cell hO2 0).trans rfl; have q1 := (blk_cell hO2 1).trans rfl; have q2 := (blk_cell hO2 2).trans rfl; have q3 := (blk_cell hO2 3).trans rfl; have q4 := (blk_cell hO2 4).trans rfl; have q5 := (blk_cell hO2 5).trans rfl; have q6 := (blk_cell hO2 6).trans rfl; have y0 := (blk_cell hG2 0).trans rfl; have y1 := (blk_cell hG2 1).trans rfl; have y2 := (blk_cell hG2 2).trans rfl; have y3 := (blk_cell hG2 3).trans rfl; have y4 := (blk_cell hG2 4).trans rfl; have y5 := (blk_cell hG2 5).trans rfl)
  subst hw0
  have hbw := HBa.trans (hb2.mono HBa.size)
  go_quiet (fail)
  go_wp2_with fail
  go_ret
  exact ⟨rfl, Does.same h hB (by first | exact hbw | exact pw_below_drewN hbw _ | exact pw_below_drewN (pw_below_drewN hbw _) _)⟩
set_option maxHeartbeats 4000000 in
theorem rrecv_cell (h : Ce ok 53 w0 w g n b e v u V bs) (hB : Below w0.heap.size w0 w) (hC : Kd.C k35 w A mbs.length mbs) (hc : mbs.length ≤ c) (hml : mbs.length ≤ 2000000000000) (hr : Rt.rightS mk mc mb me mv mu mbs = true) (hk : mk = 1) (hn : mc ≠ n) :
    Calls Tryd.prog 12 #[.pointer (some ⟨g, 0, none⟩), .agg #[.int .i64 mk, .int .i64 mc, .int .i64 mb, .int .i64 me, .int .i64 mv, .int .i64 mu, .slice A mbs.length c]] w fun ee w' => ee = .returned (.bool false) ∧ Does ok 53 w0 w w' g n b e v u bs := by
  have HBa := below_alloc (Below.refl w.heap.size w) (.cells #[.int .i64 mk, .int .i64 mc, .int .i64 mb, .int .i64 me, .int .i64 mv, .int .i64 mu, .slice A mbs.length c] 31)
  have hO := heap_alloc_new w (.cells #[.int .i64 mk, .int .i64 mc, .int .i64 mb, .int .i64 me, .int .i64 mv, .int .i64 mu, .slice A mbs.length c] 31)
  have h1 := Ce.below h HBa
  have hC1 := Kd.C_below hC HBa
  have t1 : (mk != 1) = false := by simp [hk]
  clear hk
  have t2 : (mc != n) = true := by simpa using hn
  clear hn
  go_enter Tryd.func12, Tryd.ntmps12
  go_upto_region 1 with fail
  revert HBa hO h1 hC1
  generalize hw0 : w.heap.size = o at *
  generalize w.alloc (.cells #[.int .i64 mk, .int .i64 mc, .int .i64 mb, .int .i64 me, .int .i64 mv, .int .i64 mu, .slice A mbs.length c] 31) = wa at *
  intro HBa hO h1 hC1
  have p0 := (blk_cell hO 0).trans rfl
  have p1 := (blk_cell hO 1).trans rfl
  have p2 := (blk_cell hO 2).trans rfl
  have p3 := (blk_cell hO 3).trans rfl
  have p4 := (blk_cell hO 4).trans rfl
  have p5 := (blk_cell hO 5).trans rfl
  have p6 := (blk_cell hO 6).trans rfl
  go_upto_region 2 with (go_at_call 24; refine (billetref16_Right.calls (2 * mbs.length + 22) mk mc mb me mv mu A c mbs true wa hC1 hc (by rw [Rt.ref_right_eq mbs, hr])).mono ?_; rintro ee w2 ⟨rfl, hb2⟩; have hO2 := (hb2.block o (blk_lt hO)).trans hO; have hG2 := (hb2.block g (blk_lt h1.1)).trans h1.1; have q0 := (blk_cell hO2 0).trans rfl; have q1 := (blk_cell hO2 1).trans rfl; have q2 := (blk_cell hO2 2).trans rfl; have q3 := (blk_cell hO2 3).trans rfl; have q4 := (blk_cell hO2 4).trans rfl; have q5 := (blk_cell hO2 5).trans rfl; have q6 := (blk_cell hO2 6).trans rfl; have y0 := (blk_cell hG2 0).trans rfl; have y1 := (blk_cell hG2 1).trans rfl; have y2 := (blk_cell hG2 2).trans rfl; have y3 := (blk_cell hG2 3).trans rfl; have y4 := (blk_cell hG2 4).trans rfl; have y5 := (blk_cell hG2 5).trans rfl)
  subst hw0
  have hbw := HBa.trans (hb2.mono HBa.size)
  go_quiet (fail)
  go_wp2_with fail
  go_ret
  exact ⟨rfl, Does.same h hB (by first | exact hbw | exact pw_below_drewN hbw _ | exact pw_below_drewN (pw_below_drewN hbw _) _)⟩
set_option maxHeartbeats 4000000 in
theorem rrecv_old (h : Ce ok 53 w0 w g n b e v u V bs) (hB : Below w0.heap.size w0 w) (hC : Kd.C k35 w A mbs.length mbs) (hc : mbs.length ≤ c) (hml : mbs.length ≤ 2000000000000) (hr : Rt.rightS mk mc mb me mv mu mbs = true) (hk : mk = 1) (hn : mc = n) (hz : mv = 0) (ho : ¬ e < me) :
    Calls Tryd.prog 12 #[.pointer (some ⟨g, 0, none⟩), .agg #[.int .i64 mk, .int .i64 mc, .int .i64 mb, .int .i64 me, .int .i64 mv, .int .i64 mu, .slice A mbs.length c]] w fun ee w' => ee = .returned (.bool false) ∧ Does ok 53 w0 w w' g n b e v u bs := by
  have HBa := below_alloc (Below.refl w.heap.size w) (.cells #[.int .i64 mk, .int .i64 mc, .int .i64 mb, .int .i64 me, .int .i64 mv, .int .i64 mu, .slice A mbs.length c] 31)
  have hO := heap_alloc_new w (.cells #[.int .i64 mk, .int .i64 mc, .int .i64 mb, .int .i64 me, .int .i64 mv, .int .i64 mu, .slice A mbs.length c] 31)
  have h1 := Ce.below h HBa
  have hC1 := Kd.C_below hC HBa
  have t4 : decide (me ≤ e) = true := decide_eq_true (by omega)
  have t3 : (mv == 0) = true := by simp [hz]
  clear hz
  have t1 : (mk != 1) = false := by simp [hk]
  clear hk
  have t2 : (mc != n) = false := by simp [hn]
  clear hn
  go_enter Tryd.func12, Tryd.ntmps12
  go_upto_region 1 with fail
  revert HBa hO h1 hC1
  generalize hw0 : w.heap.size = o at *
  generalize w.alloc (.cells #[.int .i64 mk, .int .i64 mc, .int .i64 mb, .int .i64 me, .int .i64 mv, .int .i64 mu, .slice A mbs.length c] 31) = wa at *
  intro HBa hO h1 hC1
  have p0 := (blk_cell hO 0).trans rfl
  have p1 := (blk_cell hO 1).trans rfl
  have p2 := (blk_cell hO 2).trans rfl
  have p3 := (blk_cell hO 3).trans rfl
  have p4 := (blk_cell hO 4).trans rfl
  have p5 := (blk_cell hO 5).trans rfl
  have p6 := (blk_cell hO 6).trans rfl
  go_upto_region 2 with (go_at_call 24; refine (billetref16_Right.calls (2 * mbs.length + 22) mk mc mb me mv mu A c mbs true wa hC1 hc (by rw [Rt.ref_right_eq mbs, hr])).mono ?_; rintro ee w2 ⟨rfl, hb2⟩; have hO2 := (hb2.block o (blk_lt hO)).trans hO; have hG2 := (hb2.block g (blk_lt h1.1)).trans h1.1; have q0 := (blk_cell hO2 0).trans rfl; have q1 := (blk_cell hO2 1).trans rfl; have q2 := (blk_cell hO2 2).trans rfl; have q3 := (blk_cell hO2 3).trans rfl; have q4 := (blk_cell hO2 4).trans rfl; have q5 := (blk_cell hO2 5).trans rfl; have q6 := (blk_cell hO2 6).trans rfl; have y0 := (blk_cell hG2 0).trans rfl; have y1 := (blk_cell hG2 1).trans rfl; have y2 := (blk_cell hG2 2).trans rfl; have y3 := (blk_cell hG2 3).trans rfl; have y4 := (blk_cell hG2 4).trans rfl; have y5 := (blk_cell hG2 5).trans rfl)
  subst hw0
  have hbw := HBa.trans (hb2.mono HBa.size)
  go_quiet (fail)
  go_upto_region 5 with fail
  go_quiet (fail)
  go_wp2_with fail
  go_ret
  exact ⟨rfl, Does.same h hB (by first | exact hbw | exact pw_below_drewN hbw _ | exact pw_below_drewN (pw_below_drewN hbw _) _)⟩
set_option maxHeartbeats 4000000 in
theorem rrecv_boot (h : Ce ok 53 w0 w g n b e v u V bs) (hB : Below w0.heap.size w0 w) (hC : Kd.C k35 w A mbs.length mbs) (hc : mbs.length ≤ c) (hml : mbs.length ≤ 2000000000000) (hr : Rt.rightS mk mc mb me mv mu mbs = true) (hk : mk = 1) (hn : mc = n) (hz : mv ≠ 0) (hbo : mb ≠ b) :
    Calls Tryd.prog 12 #[.pointer (some ⟨g, 0, none⟩), .agg #[.int .i64 mk, .int .i64 mc, .int .i64 mb, .int .i64 me, .int .i64 mv, .int .i64 mu, .slice A mbs.length c]] w fun ee w' => ee = .returned (.bool false) ∧ Does ok 53 w0 w w' g n b e v u bs := by
  have HBa := below_alloc (Below.refl w.heap.size w) (.cells #[.int .i64 mk, .int .i64 mc, .int .i64 mb, .int .i64 me, .int .i64 mv, .int .i64 mu, .slice A mbs.length c] 31)
  have hO := heap_alloc_new w (.cells #[.int .i64 mk, .int .i64 mc, .int .i64 mb, .int .i64 me, .int .i64 mv, .int .i64 mu, .slice A mbs.length c] 31)
  have h1 := Ce.below h HBa
  have hC1 := Kd.C_below hC HBa
  have t5 : (mb != b) = true := by simpa using hbo
  clear hbo
  have t3 : (mv == 0) = false := by simpa using hz
  clear hz
  have t1 : (mk != 1) = false := by simp [hk]
  clear hk
  have t2 : (mc != n) = false := by simp [hn]
  clear hn
  go_enter Tryd.func12, Tryd.ntmps12
  go_upto_region 1 with fail
  revert HBa hO h1 hC1
  generalize hw0 : w.heap.size = o at *
  generalize w.alloc (.cells #[.int .i64 mk, .int .i64 mc, .int .i64 mb, .int .i64 me, .int .i64 mv, .int .i64 mu, .slice A mbs.length c] 31) = wa at *
  intro HBa hO h1 hC1
  have p0 := (blk_cell hO 0).trans rfl
  have p1 := (blk_cell hO 1).trans rfl
  have p2 := (blk_cell hO 2).trans rfl
  have p3 := (blk_cell hO 3).trans rfl
  have p4 := (blk_cell hO 4).trans rfl
  have p5 := (blk_cell hO 5).trans rfl
  have p6 := (blk_cell hO 6).trans rfl
  go_upto_region 2 with (go_at_call 24; refine (billetref16_Right.calls (2 * mbs.length + 22) mk mc mb me mv mu A c mbs true wa hC1 hc (by rw [Rt.ref_right_eq mbs, hr])).mono ?_; rintro ee w2 ⟨rfl, hb2⟩; have hO2 := (hb2.block o (blk_lt hO)).trans hO; have hG2 := (hb2.block g (blk_lt h1.1)).trans h1.1; have q0 := (blk_cell hO2 0).trans rfl; have q1 := (blk_cell hO2 1).trans rfl; have q2 := (blk_cell hO2 2).trans rfl; have q3 := (blk_cell hO2 3).trans rfl; have q4 := (blk_cell hO2 4).trans rfl; have q5 := (blk_cell hO2 5).trans rfl; have q6 := (blk_cell hO2 6).trans rfl; have y0 := (blk_cell hG2 0).trans rfl; have y1 := (blk_cell hG2 1).trans rfl; have y2 := (blk_cell hG2 2).trans rfl; have y3 := (blk_cell hG2 3).trans rfl; have y4 := (blk_cell hG2 4).trans rfl; have y5 := (blk_cell hG2 5).trans rfl)
  subst hw0
  have hbw := HBa.trans (hb2.mono HBa.size)
  go_quiet (fail)
  go_upto_region 10 with fail
  go_quiet (fail)
  go_wp2_with fail
  go_ret
  exact ⟨rfl, Does.same h hB (by first | exact hbw | exact pw_below_drewN hbw _ | exact pw_below_drewN (pw_below_drewN hbw _) _)⟩
set_option maxHeartbeats 4000000 in
theorem rrecv_less (h : Ce ok 53 w0 w g n b e v u V bs) (hB : Below w0.heap.size w0 w) (hC : Kd.C k35 w A mbs.length mbs) (hc : mbs.length ≤ c) (hml : mbs.length ≤ 2000000000000) (hr : Rt.rightS mk mc mb me mv mu mbs = true) (hk : mk = 1) (hn : mc = n) (hz : mv ≠ 0) (hbo : mb = b) (hl : me < e) :
    Calls Tryd.prog 12 #[.pointer (some ⟨g, 0, none⟩), .agg #[.int .i64 mk, .int .i64 mc, .int .i64 mb, .int .i64 me, .int .i64 mv, .int .i64 mu, .slice A mbs.length c]] w fun ee w' => ee = .returned (.bool false) ∧ Does ok 53 w0 w w' g n b e v u bs := by
  have HBa := below_alloc (Below.refl w.heap.size w) (.cells #[.int .i64 mk, .int .i64 mc, .int .i64 mb, .int .i64 me, .int .i64 mv, .int .i64 mu, .slice A mbs.length c] 31)
  have hO := heap_alloc_new w (.cells #[.int .i64 mk, .int .i64 mc, .int .i64 mb, .int .i64 me, .int .i64 mv, .int .i64 mu, .slice A mbs.length c] 31)
  have h1 := Ce.below h HBa
  have hC1 := Kd.C_below hC HBa
  have t6 : decide (me < e) = true := decide_eq_true hl
  have t5 : (mb != b) = false := by simp [hbo]
  clear hbo
  have t3 : (mv == 0) = false := by simpa using hz
  clear hz
  have t1 : (mk != 1) = false := by simp [hk]
  clear hk
  have t2 : (mc != n) = false := by simp [hn]
  clear hn
  go_enter Tryd.func12, Tryd.ntmps12
  go_upto_region 1 with fail
  revert HBa hO h1 hC1
  generalize hw0 : w.heap.size = o at *
  generalize w.alloc (.cells #[.int .i64 mk, .int .i64 mc, .int .i64 mb, .int .i64 me, .int .i64 mv, .int .i64 mu, .slice A mbs.length c] 31) = wa at *
  intro HBa hO h1 hC1
  have p0 := (blk_cell hO 0).trans rfl
  have p1 := (blk_cell hO 1).trans rfl
  have p2 := (blk_cell hO 2).trans rfl
  have p3 := (blk_cell hO 3).trans rfl
  have p4 := (blk_cell hO 4).trans rfl
  have p5 := (blk_cell hO 5).trans rfl
  have p6 := (blk_cell hO 6).trans rfl
  go_upto_region 2 with (go_at_call 24; refine (billetref16_Right.calls (2 * mbs.length + 22) mk mc mb me mv mu A c mbs true wa hC1 hc (by rw [Rt.ref_right_eq mbs, hr])).mono ?_; rintro ee w2 ⟨rfl, hb2⟩; have hO2 := (hb2.block o (blk_lt hO)).trans hO; have hG2 := (hb2.block g (blk_lt h1.1)).trans h1.1; have q0 := (blk_cell hO2 0).trans rfl; have q1 := (blk_cell hO2 1).trans rfl; have q2 := (blk_cell hO2 2).trans rfl; have q3 := (blk_cell hO2 3).trans rfl; have q4 := (blk_cell hO2 4).trans rfl; have q5 := (blk_cell hO2 5).trans rfl; have q6 := (blk_cell hO2 6).trans rfl; have y0 := (blk_cell hG2 0).trans rfl; have y1 := (blk_cell hG2 1).trans rfl; have y2 := (blk_cell hG2 2).trans rfl; have y3 := (blk_cell hG2 3).trans rfl; have y4 := (blk_cell hG2 4).trans rfl; have y5 := (blk_cell hG2 5).trans rfl)
  subst hw0
  have hbw := HBa.trans (hb2.mono HBa.size)
  go_quiet (fail)
  go_upto_region 10 with fail
  go_quiet (fail)
  go_wp2_with fail
  go_ret
  exact ⟨rfl, Does.same h hB (by first | exact hbw | exact pw_below_drewN hbw _ | exact pw_below_drewN (pw_below_drewN hbw _) _)⟩
set_option maxHeartbeats 4000000 in
theorem rrecv_eq (h : Ce ok 53 w0 w g n b e v u V bs) (hB : Below w0.heap.size w0 w) (hC : Kd.C k35 w A mbs.length mbs) (hc : mbs.length ≤ c) (hml : mbs.length ≤ 2000000000000) (hr : Rt.rightS mk mc mb me mv mu mbs = true) (hk : mk = 1) (hn : mc = n) (hz : mv ≠ 0) (hbo : mb = b) (hl : me = e) (hv : mv ≤ v) :
    Calls Tryd.prog 12 #[.pointer (some ⟨g, 0, none⟩), .agg #[.int .i64 mk, .int .i64 mc, .int .i64 mb, .int .i64 me, .int .i64 mv, .int .i64 mu, .slice A mbs.length c]] w fun ee w' => ee = .returned (.bool false) ∧ Does ok 53 w0 w w' g n b e v u bs := by
  have HBa := below_alloc (Below.refl w.heap.size w) (.cells #[.int .i64 mk, .int .i64 mc, .int .i64 mb, .int .i64 me, .int .i64 mv, .int .i64 mu, .slice A mbs.length c] 31)
  have hO := heap_alloc_new w (.cells #[.int .i64 mk, .int .i64 mc, .int .i64 mb, .int .i64 me, .int .i64 mv, .int .i64 mu, .slice A mbs.length c] 31)
  have h1 := Ce.below h HBa
  have hC1 := Kd.C_below hC HBa
  have t8 : decide (mv ≤ v) = true := decide_eq_true hv
  have t7 : (me == e) = true := by simp [hl]
  have t6 : decide (me < e) = false := decide_eq_false (by omega)
  clear hl
  have t5 : (mb != b) = false := by simp [hbo]
  clear hbo
  have t3 : (mv == 0) = false := by simpa using hz
  clear hz
  have t1 : (mk != 1) = false := by simp [hk]
  clear hk
  have t2 : (mc != n) = false := by simp [hn]
  clear hn
  go_enter Tryd.func12, Tryd.ntmps12
  go_upto_region 1 with fail
  revert HBa hO h1 hC1
  generalize hw0 : w.heap.size = o at *
  generalize w.alloc (.cells #[.int .i64 mk, .int .i64 mc, .int .i64 mb, .int .i64 me, .int .i64 mv, .int .i64 mu, .slice A mbs.length c] 31) = wa at *
  intro HBa hO h1 hC1
  have p0 := (blk_cell hO 0).trans rfl
  have p1 := (blk_cell hO 1).trans rfl
  have p2 := (blk_cell hO 2).trans rfl
  have p3 := (blk_cell hO 3).trans rfl
  have p4 := (blk_cell hO 4).trans rfl
  have p5 := (blk_cell hO 5).trans rfl
  have p6 := (blk_cell hO 6).trans rfl
  go_upto_region 2 with (go_at_call 24; refine (billetref16_Right.calls (2 * mbs.length + 22) mk mc mb me mv mu A c mbs true wa hC1 hc (by rw [Rt.ref_right_eq mbs, hr])).mono ?_; rintro ee w2 ⟨rfl, hb2⟩; have hO2 := (hb2.block o (blk_lt hO)).trans hO; have hG2 := (hb2.block g (blk_lt h1.1)).trans h1.1; have q0 := (blk_cell hO2 0).trans rfl; have q1 := (blk_cell hO2 1).trans rfl; have q2 := (blk_cell hO2 2).trans rfl; have q3 := (blk_cell hO2 3).trans rfl; have q4 := (blk_cell hO2 4).trans rfl; have q5 := (blk_cell hO2 5).trans rfl; have q6 := (blk_cell hO2 6).trans rfl; have y0 := (blk_cell hG2 0).trans rfl; have y1 := (blk_cell hG2 1).trans rfl; have y2 := (blk_cell hG2 2).trans rfl; have y3 := (blk_cell hG2 3).trans rfl; have y4 := (blk_cell hG2 4).trans rfl; have y5 := (blk_cell hG2 5).trans rfl)
  subst hw0
  have hbw := HBa.trans (hb2.mono HBa.size)
  go_quiet (fail)
  go_upto_region 10 with fail
  go_quiet (fail)
  go_wp2_with fail
  go_ret
  exact ⟨rfl, Does.same h hB (by first | exact hbw | exact pw_below_drewN hbw _ | exact pw_below_drewN (pw_below_drewN hbw _) _)⟩
set_option maxHeartbeats 4000000 in
theorem rrecv_greet (h : Ce ok 53 w0 w g n b e v u V bs) (hB : Below w0.heap.size w0 w) (hC : Kd.C k35 w A mbs.length mbs) (hc : mbs.length ≤ c) (hml : mbs.length ≤ 2000000000000) (hr : Rt.rightS mk mc mb me mv mu mbs = true) (hk : mk = 1) (hn : mc = n) (hz : mv = 0) (ho : e < me) :
    Calls Tryd.prog 12 #[.pointer (some ⟨g, 0, none⟩), .agg #[.int .i64 mk, .int .i64 mc, .int .i64 mb, .int .i64 me, .int .i64 mv, .int .i64 mu, .slice A mbs.length c]] w fun ee w' => ee = .returned (.bool true) ∧ Does ok 53 w0 w w' g n b me mv u bs := by
  have HBa := below_alloc (Below.refl w.heap.size w) (.cells #[.int .i64 mk, .int .i64 mc, .int .i64 mb, .int .i64 me, .int .i64 mv, .int .i64 mu, .slice A mbs.length c] 31)
  have hO := heap_alloc_new w (.cells #[.int .i64 mk, .int .i64 mc, .int .i64 mb, .int .i64 me, .int .i64 mv, .int .i64 mu, .slice A mbs.length c] 31)
  have h1 := Ce.below h HBa
  have hC1 := Kd.C_below hC HBa
  have t4 : decide (me ≤ e) = false := decide_eq_false (by omega)
  have t3 : (mv == 0) = true := by simp [hz]
  have hzz := Aside0.mk hz
  clear hz
  have t1 : (mk != 1) = false := by simp [hk]
  clear hk
  have t2 : (mc != n) = false := by simp [hn]
  clear hn
  go_enter Tryd.func12, Tryd.ntmps12
  go_upto_region 1 with fail
  revert HBa hO h1 hC1
  generalize hw0 : w.heap.size = o at *
  generalize w.alloc (.cells #[.int .i64 mk, .int .i64 mc, .int .i64 mb, .int .i64 me, .int .i64 mv, .int .i64 mu, .slice A mbs.length c] 31) = wa at *
  intro HBa hO h1 hC1
  have p0 := (blk_cell hO 0).trans rfl
  have p1 := (blk_cell hO 1).trans rfl
  have p2 := (blk_cell hO 2).trans rfl
  have p3 := (blk_cell hO 3).trans rfl
  have p4 := (blk_cell hO 4).trans rfl
  have p5 := (blk_cell hO 5).trans rfl
  have p6 := (blk_cell hO 6).trans rfl
  go_upto_region 2 with (go_at_call 24; refine (billetref16_Right.calls (2 * mbs.length + 22) mk mc mb me mv mu A c mbs true wa hC1 hc (by rw [Rt.ref_right_eq mbs, hr])).mono ?_; rintro ee w2 ⟨rfl, hb2⟩; have hO2 := (hb2.block o (blk_lt hO)).trans hO; have hG2 := (hb2.block g (blk_lt h1.1)).trans h1.1; have q0 := (blk_cell hO2 0).trans rfl; have q1 := (blk_cell hO2 1).trans rfl; have q2 := (blk_cell hO2 2).trans rfl; have q3 := (blk_cell hO2 3).trans rfl; have q4 := (blk_cell hO2 4).trans rfl; have q5 := (blk_cell hO2 5).trans rfl; have q6 := (blk_cell hO2 6).trans rfl; have y0 := (blk_cell hG2 0).trans rfl; have y1 := (blk_cell hG2 1).trans rfl; have y2 := (blk_cell hG2 2).trans rfl; have y3 := (blk_cell hG2 3).trans rfl; have y4 := (blk_cell hG2 4).trans rfl; have y5 := (blk_cell hG2 5).trans rfl)
  subst hw0
  have hbw := HBa.trans (hb2.mono HBa.size)
  have fg2 := blk_frozen hG2 2
  have fg3 := blk_frozen hG2 3
  go_quiet (fail)
  go_upto_region 5 with fail
  go_quiet (fail)
  go_wp2_with fail
  go_ret
  exact ⟨rfl, by rw [hzz.out]; exact done_rgreet h hB hG2 (pw_below_drewN hbw _)⟩
set_option maxHeartbeats 4000000 in
theorem rrecv_take (h : Ce ok 53 w0 w g n b e v u V bs) (hB : Below w0.heap.size w0 w) (hC : Kd.C k35 w A mbs.length mbs) (hc : mbs.length ≤ c) (hml : mbs.length ≤ 2000000000000) (hr : Rt.rightS mk mc mb me mv mu mbs = true) (hok : ∀ k, w.heap.size ≤ k → ok k) (hfar : ∀ ad, A = some ad → 0 < mbs.length → ad.block ≠ g) (hk : mk = 1) (hn : mc = n) (hz : mv ≠ 0) (hbo : mb = b) (hm : e < me) :
    Calls Tryd.prog 12 #[.pointer (some ⟨g, 0, none⟩), .agg #[.int .i64 mk, .int .i64 mc, .int .i64 mb, .int .i64 me, .int .i64 mv, .int .i64 mu, .slice A mbs.length c]] w fun ee w' => ee = .returned (.bool true) ∧ Does ok 53 w0 w w' g n b me mv mu mbs := by
  have HBa := below_alloc (Below.refl w.heap.size w) (.cells #[.int .i64 mk, .int .i64 mc, .int .i64 mb, .int .i64 me, .int .i64 mv, .int .i64 mu, .slice A mbs.length c] 31)
  have hO := heap_alloc_new w (.cells #[.int .i64 mk, .int .i64 mc, .int .i64 mb, .int .i64 me, .int .i64 mv, .int .i64 mu, .slice A mbs.length c] 31)
  have h1 := Ce.below h HBa
  have hC1 := Kd.C_below hC HBa
  have t6 : decide (me < e) = false := decide_eq_false (by omega)
  have t7 : (me == e) = false := by rw [beq_eq_false_iff_ne]; omega
  clear hm
  have t5 : (mb != b) = false := by simp [hbo]
  clear hbo
  have t3 : (mv == 0) = false := by simpa using hz
  clear hz
  have t1 : (mk != 1) = false := by simp [hk]
  clear hk
  have t2 : (mc != n) = false := by simp [hn]
  clear hn
  go_enter Tryd.func12, Tryd.ntmps12
  go_upto_region 1 with fail
  revert HBa hO h1 hC1
  generalize hw0 : w.heap.size = o at *
  generalize w.alloc (.cells #[.int .i64 mk, .int .i64 mc, .int .i64 mb, .int .i64 me, .int .i64 mv, .int .i64 mu, .slice A mbs.length c] 31) = wa at *
  intro HBa hO h1 hC1
  have p0 := (blk_cell hO 0).trans rfl
  have p1 := (blk_cell hO 1).trans rfl
  have p2 := (blk_cell hO 2).trans rfl
  have p3 := (blk_cell hO 3).trans rfl
  have p4 := (blk_cell hO 4).trans rfl
  have p5 := (blk_cell hO 5).trans rfl
  have p6 := (blk_cell hO 6).trans rfl
  go_upto_region 2 with (go_at_call 24; refine (billetref16_Right.calls (2 * mbs.length + 22) mk mc mb me mv mu A c mbs true wa hC1 hc (by rw [Rt.ref_right_eq mbs, hr])).mono ?_; rintro ee w2 ⟨rfl, hb2⟩; have hO2 := (hb2.block o (blk_lt hO)).trans hO; have hG2 := (hb2.block g (blk_lt h1.1)).trans h1.1; have q0 := (blk_cell hO2 0).trans rfl; have q1 := (blk_cell hO2 1).trans rfl; have q2 := (blk_cell hO2 2).trans rfl; have q3 := (blk_cell hO2 3).trans rfl; have q4 := (blk_cell hO2 4).trans rfl; have q5 := (blk_cell hO2 5).trans rfl; have q6 := (blk_cell hO2 6).trans rfl; have y0 := (blk_cell hG2 0).trans rfl; have y1 := (blk_cell hG2 1).trans rfl; have y2 := (blk_cell hG2 2).trans rfl; have y3 := (blk_cell hG2 3).trans rfl; have y4 := (blk_cell hG2 4).trans rfl; have y5 := (blk_cell hG2 5).trans rfl)
  subst hw0
  have hbw := HBa.trans (hb2.mono HBa.size)
  have hne : ∀ j k, (⟨g, j, none⟩ : Addr) ≠ ⟨w.heap.size, k, none⟩ := by intro j k e; injection e with e; have := blk_lt h.1; omega
  have hne2 : ∀ (W : World) (x : Value) (j k : Nat), (W.setCell ⟨g, j, none⟩ x).cell? ⟨w.heap.size, k, none⟩ = W.cell? ⟨w.heap.size, k, none⟩ := fun W x j k => World.cell?_setCell_other _ _ _ _ (hne j k)
  have fg2 := blk_frozen hG2 2
  have fg3 := blk_frozen hG2 3
  have fg4 := blk_frozen hG2 4
  have fg5 := blk_frozen hG2 5
  have hX : ∀ m, (((((w2.drewN m).setCell ⟨g, 2, none⟩ (.int .i64 me)).setCell ⟨g, 3, none⟩ (.int .i64 mv)).setCell ⟨g, 4, none⟩ (.int .i64 mu))).heap[g]? = some (.cells #[.int .i64 n, .int .i64 b, .int .i64 me, .int .i64 mv, .int .i64 mu, V] 53 (0, 0)) ∧ (((((w2.drewN m).setCell ⟨g, 2, none⟩ (.int .i64 me)).setCell ⟨g, 3, none⟩ (.int .i64 mv)).setCell ⟨g, 4, none⟩ (.int .i64 mu))).heap[w.heap.size]? = some (.cells #[.int .i64 mk, .int .i64 mc, .int .i64 mb, .int .i64 me, .int .i64 mv, .int .i64 mu, .slice A mbs.length c] 31 (0, 0)) ∧ Below w0.heap.size w0 (((((w2.drewN m).setCell ⟨g, 2, none⟩ (.int .i64 me)).setCell ⟨g, 3, none⟩ (.int .i64 mv)).setCell ⟨g, 4, none⟩ (.int .i64 mu))) ∧ KeepBut w (((((w2.drewN m).setCell ⟨g, 2, none⟩ (.int .i64 me)).setCell ⟨g, 3, none⟩ (.int .i64 mv)).setCell ⟨g, 4, none⟩ (.int .i64 mu))) g none := fun m => by
    have hb := pw_below_drewN hbw m
    have hge : ∀ j, w0.heap.size ≤ (⟨g, j, none⟩ : Addr).block := fun _ => h.2.1
    have hog : w.heap.size ≠ g := by have := blk_lt h.1; omega
    refine ⟨blk_put (blk_put (blk_put (w := w2.drewN m) hG2 2 _ rfl) 3 _ rfl) 4 _ rfl, blk_far (p := ⟨g, 4, none⟩) (blk_far (p := ⟨g, 3, none⟩) (blk_far (w := w2.drewN m) (p := ⟨g, 2, none⟩) hO2 hog _) hog _) hog _, (((hB.trans (hb.mono hB.size)).setCell (p := ⟨g, 2, none⟩) (hge 2) _).setCell (p := ⟨g, 3, none⟩) (hge 3) _).setCell (p := ⟨g, 4, none⟩) (hge 4) _, ?_, fun i hi hne _ => ?_⟩
    · have := hb.size
      simpa [World.setCell] using this
    · exact (Below.heap_setCell _ ⟨g, 4, none⟩ _ i hne).trans ((Below.heap_setCell _ ⟨g, 3, none⟩ _ i hne).trans ((Below.heap_setCell _ ⟨g, 2, none⟩ _ i hne).trans (hb.block i hi)))
  go_quiet (fail)
  go_upto_region 10 with fail
  go_quiet (fail)
  go_upto_region 16 with fail
  generalize hW : ((((w2.drewN _).setCell ⟨g, 2, none⟩ (.int .i64 me)).setCell ⟨g, 3, none⟩ (.int .i64 mv)).setCell ⟨g, 4, none⟩ (.int .i64 mu)) = W
  have hP := hX
  obtain ⟨hGX, hOX, hBX, hKX⟩ : W.heap[g]? = some (.cells #[.int .i64 n, .int .i64 b, .int .i64 me, .int .i64 mv, .int .i64 mu, V] 53 (0, 0)) ∧ W.heap[w.heap.size]? = some (.cells #[.int .i64 mk, .int .i64 mc, .int .i64 mb, .int .i64 me, .int .i64 mv, .int .i64 mu, .slice A mbs.length c] 31 (0, 0)) ∧ Below w0.heap.size w0 W ∧ KeepBut w W g none := by rw [← hW]; exact hX _
  clear hX hP hW hne hne2 fg2 fg3 fg4 fg5 q0 q1 q2 q3 q4 q5 q6 y0 y1 y2 y3 y4 y5
  have hCX := foot35 hC hfar W hKX
  have q6 := (blk_cell hOX 6).trans rfl
  go_wp2_with (first | (at_builtin; refine Kd.R_append_rows k35 (w0 := W) W.heap.size rfl (.tmp 93) (.tmp 95) 29 35 (.agg #[.string ⟨#[]⟩, .string ⟨#[]⟩, .int .i64 0]) 40 rfl Tryd.underlying29 (by kernel_rfl) rfl (by decide) (by omega) (.slice none 0 0) [] mbs _ _ _ (fun _ => True) (fun _ => False) rfl rfl (Kd.R_nil _ _ _ _ _) ?aR (fun _ _ h => h) (fun _ h => h.elim) (fun _ _ => trivial) (Below.refl _ _) (Nat.le_refl _) ?aL ?_; (case aR => exact hCX); (case aL => simp; omega); intro v1 w4 ho1 hb1 hg1 hat1; rw [List.nil_append] at ho1; obtain ⟨A1, c1, rfl⟩ := Kd.R_slice ho1; have hG4 := (hb1.block g (blk_lt hGX)).trans hGX; have fg5 := blk_frozen hG4 5; have y5g := (blk_cell hG4 5).trans rfl))
  go_ret
  refine ⟨rfl, ⟨_, blk_put hG4 5 _ rfl, h.2.1, Kd.R_lower (Kd.R_bound (Kd.R_far (Kd.R_newB ho1 (g := g) hGX) (p := ⟨g, 5, none⟩) (fun k hk => hk.2) _)) hBX.size |> fun q => Kd.R_mono q (fun k hk => ⟨hk.1.2, hok k (Nat.le_trans hKX.1 hk.2.1)⟩)⟩, (hBX.trans (hb1.mono hBX.size)).setCell (p := ⟨g, 5, none⟩) h.2.1 _, ?_, fun i hi hne hno => ?_⟩
  · have := Nat.le_trans hKX.1 hb1.size
    simpa [World.setCell] using this
  · exact (Below.heap_setCell _ ⟨g, 5, none⟩ _ i hne).trans ((hb1.block i (Nat.lt_of_lt_of_le hi hKX.1)).trans (hKX.2 i hi hne hno))
set_option maxHeartbeats 4000000 in
theorem rrecv_take2 (h : Ce ok 53 w0 w g n b e v u V bs) (hB : Below w0.heap.size w0 w) (hC : Kd.C k35 w A mbs.length mbs) (hc : mbs.length ≤ c) (hml : mbs.length ≤ 2000000000000) (hr : Rt.rightS mk mc mb me mv mu mbs = true) (hok : ∀ k, w.heap.size ≤ k → ok k) (hfar : ∀ ad, A = some ad → 0 < mbs.length → ad.block ≠ g) (hk : mk = 1) (hn : mc = n) (hz : mv ≠ 0) (hbo : mb = b) (hl : me = e) (hv : v < mv) :
    Calls Tryd.prog 12 #[.pointer (some ⟨g, 0, none⟩), .agg #[.int .i64 mk, .int .i64 mc, .int .i64 mb, .int .i64 me, .int .i64 mv, .int .i64 mu, .slice A mbs.length c]] w fun ee w' => ee = .returned (.bool true) ∧ Does ok 53 w0 w w' g n b me mv mu mbs := by
  have HBa := below_alloc (Below.refl w.heap.size w) (.cells #[.int .i64 mk, .int .i64 mc, .int .i64 mb, .int .i64 me, .int .i64 mv, .int .i64 mu, .slice A mbs.length c] 31)
  have hO := heap_alloc_new w (.cells #[.int .i64 mk, .int .i64 mc, .int .i64 mb, .int .i64 me, .int .i64 mv, .int .i64 mu, .slice A mbs.length c] 31)
  have h1 := Ce.below h HBa
  have hC1 := Kd.C_below hC HBa
  have t8 : decide (mv ≤ v) = false := decide_eq_false (by omega)
  have t7 : (me == e) = true := by simp [hl]
  have t6 : decide (me < e) = false := decide_eq_false (by omega)
  clear hl
  have t5 : (mb != b) = false := by simp [hbo]
  clear hbo
  have t3 : (mv == 0) = false := by simpa using hz
  clear hz
  have t1 : (mk != 1) = false := by simp [hk]
  clear hk
  have t2 : (mc != n) = false := by simp [hn]
  clear hn
  go_enter Tryd.func12, Tryd.ntmps12
  go_upto_region 1 with fail
  revert HBa hO h1 hC1
  generalize hw0 : w.heap.size = o at *
  generalize w.alloc (.cells #[.int .i64 mk, .int .i64 mc, .int .i64 mb, .int .i64 me, .int .i64 mv, .int .i64 mu, .slice A mbs.length c] 31) = wa at *
  intro HBa hO h1 hC1
  have p0 := (blk_cell hO 0).trans rfl
  have p1 := (blk_cell hO 1).trans rfl
  have p2 := (blk_cell hO 2).trans rfl
  have p3 := (blk_cell hO 3).trans rfl
  have p4 := (blk_cell hO 4).trans rfl
  have p5 := (blk_cell hO 5).trans rfl
  have p6 := (blk_cell hO 6).trans rfl
  go_upto_region 2 with (go_at_call 24; refine (billetref16_Right.calls (2 * mbs.length + 22) mk mc mb me mv mu A c mbs true wa hC1 hc (by rw [Rt.ref_right_eq mbs, hr])).mono ?_; rintro ee w2 ⟨rfl, hb2⟩; have hO2 := (hb2.block o (blk_lt hO)).trans hO; have hG2 := (hb2.block g (blk_lt h1.1)).trans h1.1; have q0 := (blk_cell hO2 0).trans rfl; have q1 := (blk_cell hO2 1).trans rfl; have q2 := (blk_cell hO2 2).trans rfl; have q3 := (blk_cell hO2 3).trans rfl; have q4 := (blk_cell hO2 4).trans rfl; have q5 := (blk_cell hO2 5).trans rfl; have q6 := (blk_cell hO2 6).trans rfl; have y0 := (blk_cell hG2 0).trans rfl; have y1 := (blk_cell hG2 1).trans rfl; have y2 := (blk_cell hG2 2).trans rfl; have y3 := (blk_cell hG2 3).trans rfl; have y4 := (blk_cell hG2 4).trans rfl; have y5 := (blk_cell hG2 5).trans rfl)
  subst hw0
  have hbw := HBa.trans (hb2.mono HBa.size)
  have hne : ∀ j k, (⟨g, j, none⟩ : Addr) ≠ ⟨w.heap.size, k, none⟩ := by intro j k e; injection e with e; have := blk_lt h.1; omega
  have hne2 : ∀ (W : World) (x : Value) (j k : Nat), (W.setCell ⟨g, j, none⟩ x).cell? ⟨w.heap.size, k, none⟩ = W.cell? ⟨w.heap.size, k, none⟩ := fun W x j k => World.cell?_setCell_other _ _ _ _ (hne j k)
  have fg2 := blk_frozen hG2 2
  have fg3 := blk_frozen hG2 3
  have fg4 := blk_frozen hG2 4
  have fg5 := blk_frozen hG2 5
  have hX : ∀ m, (((((w2.drewN m).setCell ⟨g, 2, none⟩ (.int .i64 me)).setCell ⟨g, 3, none⟩ (.int .i64 mv)).setCell ⟨g, 4, none⟩ (.int .i64 mu))).heap[g]? = some (.cells #[.int .i64 n, .int .i64 b, .int .i64 me, .int .i64 mv, .int .i64 mu, V] 53 (0, 0)) ∧ (((((w2.drewN m).setCell ⟨g, 2, none⟩ (.int .i64 me)).setCell ⟨g, 3, none⟩ (.int .i64 mv)).setCell ⟨g, 4, none⟩ (.int .i64 mu))).heap[w.heap.size]? = some (.cells #[.int .i64 mk, .int .i64 mc, .int .i64 mb, .int .i64 me, .int .i64 mv, .int .i64 mu, .slice A mbs.length c] 31 (0, 0)) ∧ Below w0.heap.size w0 (((((w2.drewN m).setCell ⟨g, 2, none⟩ (.int .i64 me)).setCell ⟨g, 3, none⟩ (.int .i64 mv)).setCell ⟨g, 4, none⟩ (.int .i64 mu))) ∧ KeepBut w (((((w2.drewN m).setCell ⟨g, 2, none⟩ (.int .i64 me)).setCell ⟨g, 3, none⟩ (.int .i64 mv)).setCell ⟨g, 4, none⟩ (.int .i64 mu))) g none := fun m => by
    have hb := pw_below_drewN hbw m
    have hge : ∀ j, w0.heap.size ≤ (⟨g, j, none⟩ : Addr).block := fun _ => h.2.1
    have hog : w.heap.size ≠ g := by have := blk_lt h.1; omega
    refine ⟨blk_put (blk_put (blk_put (w := w2.drewN m) hG2 2 _ rfl) 3 _ rfl) 4 _ rfl, blk_far (p := ⟨g, 4, none⟩) (blk_far (p := ⟨g, 3, none⟩) (blk_far (w := w2.drewN m) (p := ⟨g, 2, none⟩) hO2 hog _) hog _) hog _, (((hB.trans (hb.mono hB.size)).setCell (p := ⟨g, 2, none⟩) (hge 2) _).setCell (p := ⟨g, 3, none⟩) (hge 3) _).setCell (p := ⟨g, 4, none⟩) (hge 4) _, ?_, fun i hi hne _ => ?_⟩
    · have := hb.size
      simpa [World.setCell] using this
    · exact (Below.heap_setCell _ ⟨g, 4, none⟩ _ i hne).trans ((Below.heap_setCell _ ⟨g, 3, none⟩ _ i hne).trans ((Below.heap_setCell _ ⟨g, 2, none⟩ _ i hne).trans (hb.block i hi)))
  go_quiet (fail)
  go_upto_region 10 with fail
  go_quiet (fail)
  go_upto_region 16 with fail
  generalize hW : ((((w2.drewN _).setCell ⟨g, 2, none⟩ (.int .i64 me)).setCell ⟨g, 3, none⟩ (.int .i64 mv)).setCell ⟨g, 4, none⟩ (.int .i64 mu)) = W
  have hP := hX
  obtain ⟨hGX, hOX, hBX, hKX⟩ : W.heap[g]? = some (.cells #[.int .i64 n, .int .i64 b, .int .i64 me, .int .i64 mv, .int .i64 mu, V] 53 (0, 0)) ∧ W.heap[w.heap.size]? = some (.cells #[.int .i64 mk, .int .i64 mc, .int .i64 mb, .int .i64 me, .int .i64 mv, .int .i64 mu, .slice A mbs.length c] 31 (0, 0)) ∧ Below w0.heap.size w0 W ∧ KeepBut w W g none := by rw [← hW]; exact hX _
  clear hX hP hW hne hne2 fg2 fg3 fg4 fg5 q0 q1 q2 q3 q4 q5 q6 y0 y1 y2 y3 y4 y5
  have hCX := foot35 hC hfar W hKX
  have q6 := (blk_cell hOX 6).trans rfl
  go_wp2_with (first | (at_builtin; refine Kd.R_append_rows k35 (w0 := W) W.heap.size rfl (.tmp 93) (.tmp 95) 29 35 (.agg #[.string ⟨#[]⟩, .string ⟨#[]⟩, .int .i64 0]) 40 rfl Tryd.underlying29 (by kernel_rfl) rfl (by decide) (by omega) (.slice none 0 0) [] mbs _ _ _ (fun _ => True) (fun _ => False) rfl rfl (Kd.R_nil _ _ _ _ _) ?aR (fun _ _ h => h) (fun _ h => h.elim) (fun _ _ => trivial) (Below.refl _ _) (Nat.le_refl _) ?aL ?_; (case aR => exact hCX); (case aL => simp; omega); intro v1 w4 ho1 hb1 hg1 hat1; rw [List.nil_append] at ho1; obtain ⟨A1, c1, rfl⟩ := Kd.R_slice ho1; have hG4 := (hb1.block g (blk_lt hGX)).trans hGX; have fg5 := blk_frozen hG4 5; have y5g := (blk_cell hG4 5).trans rfl))
  go_ret
  refine ⟨rfl, ⟨_, blk_put hG4 5 _ rfl, h.2.1, Kd.R_lower (Kd.R_bound (Kd.R_far (Kd.R_newB ho1 (g := g) hGX) (p := ⟨g, 5, none⟩) (fun k hk => hk.2) _)) hBX.size |> fun q => Kd.R_mono q (fun k hk => ⟨hk.1.2, hok k (Nat.le_trans hKX.1 hk.2.1)⟩)⟩, (hBX.trans (hb1.mono hBX.size)).setCell (p := ⟨g, 5, none⟩) h.2.1 _, ?_, fun i hi hne hno => ?_⟩
  · have := Nat.le_trans hKX.1 hb1.size
    simpa [World.setCell] using this
  · exact (Below.heap_setCell _ ⟨g, 5, none⟩ _ i hne).trans ((hb1.block i (Nat.lt_of_lt_of_le hi hKX.1)).trans (hKX.2 i hi hne hno))
end
end Go.Proofs.YtpgifeoigconbaaDoor.Cl
