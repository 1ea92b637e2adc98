/- CellLast: the walk. -/
import Derived.Test.YtpgifeoigconbaaDoorAw
import Derived.Test.YtpgifeoigconbaaDoorGd
namespace Go.Proofs.YtpgifeoigconbaaDoor.Cl
set_option linter.unusedVariables false
set_option linter.unusedSimpArgs false
open Go.RowKit Go.Proofs.YtpgifeoigconbaaDoorW.PrintWords Go.Proofs.YtpgifeoigconbaaDoorW.PrintLast Go.Proofs.YtpgifeoigconbaaDoor.Mo Go.Proofs.YtpgifeoigconbaaDoor.Q Go.Proofs.YtpgifeoigconbaaDoor.Rt
attribute [local go_sem] max2_int min2_int max_two min_two max_three min_three max_four min_four
structure S31 where
  f0 : Int
  f1 : Int
  f2 : Int
  f3 : Int
  f4 : Int
  f5 : Int
  f6 : List S35
def z31 : S31 := ⟨0, 0, 0, 0, 0, 0, []⟩
def k31 : Kd S31 := Kd.iso (Kd.pair (Kd.int .i64) (Kd.pair (Kd.int .i64) (Kd.pair (Kd.int .i64) (Kd.pair (Kd.int .i64) (Kd.pair (Kd.int .i64) (Kd.pair (Kd.int .i64) (Kd.slice 35 k35))))))) (fun x : S31 => (x.f0, x.f1, x.f2, x.f3, x.f4, x.f5, x.f6))
theorem k31_open {w : World} {x : S31} {cs : List Value} (h : k31.K w x cs) : ∃ A c, cs = [.int .i64 x.f0, .int .i64 x.f1, .int .i64 x.f2, .int .i64 x.f3, .int .i64 x.f4, .int .i64 x.f5, .slice A x.f6.length c] ∧ x.f6.length ≤ c ∧ Kd.C k35 w A x.f6.length x.f6 := by
  obtain ⟨_, _, rfl, rfl, ⟨_, _, rfl, rfl, ⟨_, _, rfl, rfl, ⟨_, _, rfl, rfl, ⟨_, _, rfl, rfl, ⟨_, _, rfl, rfl, ⟨A, c, rfl, hc, hC⟩⟩⟩⟩⟩⟩⟩ := h
  exact ⟨A, c, rfl, hc, hC⟩
theorem k31_mkM (w : World) (base : Nat) (ok : Nat → Prop) (x : S31) (v : Value) (h : k35.R 35 w base ok v x.f6) : k31.M w base ok x [.int .i64 x.f0, .int .i64 x.f1, .int .i64 x.f2, .int .i64 x.f3, .int .i64 x.f4, .int .i64 x.f5, v] :=
  ⟨[_], _, rfl, rfl, ⟨[_], _, rfl, rfl, ⟨[_], _, rfl, rfl, ⟨[_], _, rfl, rfl, ⟨[_], _, rfl, rfl, ⟨[_], _, rfl, rfl, ⟨v, rfl, h⟩⟩⟩⟩⟩⟩⟩
def rd31 (xs : List S31) (i : Nat) : S31 := xs.getD i z31
theorem at31 {w : World} {A : Option Addr} {n : Nat} {xs : List S31} (h : Kd.C k31 w A n xs) (i : Nat) (h1 : i < n) : ∃ (ad : Addr) (B : Option Addr) (c : Nat), A = some ad ∧ w.cell? (ad.add (i * 7)) = some (.int .i64 (rd31 xs i).f0) ∧ w.cell? ⟨(ad.add (i * 7)).block, (ad.add (i * 7)).off + 1, none⟩ = some (.int .i64 (rd31 xs i).f1) ∧ w.cell? ⟨(ad.add (i * 7)).block, (ad.add (i * 7)).off + 2, none⟩ = some (.int .i64 (rd31 xs i).f2) ∧ w.cell? ⟨(ad.add (i * 7)).block, (ad.add (i * 7)).off + 3, none⟩ = some (.int .i64 (rd31 xs i).f3) ∧ w.cell? ⟨(ad.add (i * 7)).block, (ad.add (i * 7)).off + 4, none⟩ = some (.int .i64 (rd31 xs i).f4) ∧ w.cell? ⟨(ad.add (i * 7)).block, (ad.add (i * 7)).off + 5, none⟩ = some (.int .i64 (rd31 xs i).f5) ∧ w.cell? ⟨(ad.add (i * 7)).block, (ad.add (i * 7)).off + 6, none⟩ = some (.slice B (rd31 xs i).f6.length c) ∧ (rd31 xs i).f6.length ≤ c ∧ Kd.C k35 w B (rd31 xs i).f6.length (rd31 xs i).f6 := by
  obtain ⟨ad, c, e, _, hK, hc0⟩ := Kd.C_get h z31 (i : Int) (by omega) (by omega)
  rw [Int.toNat_natCast] at hK hc0
  have hc : ∀ j u, c[j]? = some u → w.cell? (ad.add (i * 7 + j)) = some u := hc0
  obtain ⟨B, cc, rfl, hl, hC⟩ := k31_open hK
  exact ⟨ad, B, cc, e, hc 0 _ rfl, by rw [← add_field _ _ 1 (by omega)]; exact hc 1 _ rfl, by rw [← add_field _ _ 2 (by omega)]; exact hc 2 _ rfl, by rw [← add_field _ _ 3 (by omega)]; exact hc 3 _ rfl, by rw [← add_field _ _ 4 (by omega)]; exact hc 4 _ rfl, by rw [← add_field _ _ 5 (by omega)]; exact hc 5 _ rfl, by rw [← add_field _ _ 6 (by omega)]; exact hc 6 _ rfl, hl, hC⟩
theorem info31 : (Tryd.prog.info? 31).map (fun i => (i.zero, i.size, i.bytes)) = some (some (.agg #[.int .i64 0, .int .i64 0, .int .i64 0, .int .i64 0, .int .i64 0, .int .i64 0, .slice none 0 0]), 7, 72) := by kernel_rfl
theorem k31_E : ∀ q, q ∈ 31 :: k31.E → q = 31 ∨ q = 35 := fun q hq => by simpa [k31, k35, Kd.iso, Kd.pair, Kd.string, Kd.int, Kd.scalar, Kd.slice] using hq
/-- messages in a row of the call's own -/
def All (w0 w : World) (A : Option Addr) (cap : Nat) (ms : List S31) : Prop := k31.R 31 w w0.heap.size (fun _ => True) (.slice A ms.length cap) ms
theorem All.C {w0 w : World} {A : Option Addr} {cap : Nat} {ms : List S31} (h : All w0 w A cap ms) : Kd.C k31 w A ms.length ms := (Kd.R_reads' h).2.2
theorem All.below {w0 w w' : World} {A : Option Addr} {cap : Nat} {ms : List S31} (h : All w0 w A cap ms) (hb : Below w.heap.size w w') : All w0 w' A cap ms := Kd.R_below h hb
theorem Cs.keepAll {w0 w w' : World} {A : Option Addr} {cap : Nat} {ms : List S31} {g : Nat} {n b e v u : Int} {bs : List S35} (hc : Cs w0 w g n b e v u bs) (h : All w0 w A cap ms) (hk : KeepBut w w' g none) : All w0 w' A cap ms := by
  obtain ⟨V, hc⟩ := hc
  exact Kd.R_mono (Kd.R_keep (Kd.R_types h hc.1 (fun q hq => by rcases k31_E q hq with rfl | rfl <;> decide)) hk (fun k hk => hk.2)) (fun _ _ => trivial)
theorem Cs.app {w0 W W1 : World} {g : Nat} {n b e v u : Int} {bs : List S35} (h : Cs w0 W g n b e v u bs) {base : Nat} {ok : Nat → Prop} {r : Value} {ms : List S31} (hv : k31.R 31 W base ok r ms) (hg : W.grownBy W1 r.ownBlock) : Cs w0 W1 g n b e v u bs := by
  obtain ⟨V, h⟩ := h
  exact ⟨V, blk_grown h.1 hg (Kd.R_ne hv h.1 (by decide)), h.2.1, Kd.R_over h.2.2 hv (fun q hq => by simp [k35, Kd.iso, Kd.pair, Kd.string, Kd.int, Kd.scalar] at hq; subst hq; decide) hg⟩
theorem row_apart {W : World} {base base' : Nat} {ok ok' : Nat → Prop} {r v : Value} {ms : List S31} {bs : List S35} (hv : k31.R 31 W base ok r ms) (h : k35.R 35 W base' ok' v bs) : k35.R 35 W base' (fun k => some k ≠ r.ownBlock) v bs :=
  Kd.R_mono (Kd.R_bound h) (fun k hk e => by
    obtain ⟨_, _, _, q, hq, cells, hc⟩ := hk
    obtain ⟨inner, ho⟩ := Kd.R_own hv
    obtain ⟨cells', hc'⟩ := own_typed ho k e.symm
    rw [hc] at hc'
    injection hc' with hc'
    injection hc' with _ hc'
    simp [k35, Kd.iso, Kd.pair, Kd.string, Kd.int, Kd.scalar] at hq
    rw [hq] at hc'
    cases hc')
/-- the i-th message -/
def msgS (x : S42) (i : Nat) : S31 := ⟨1, 0, 1, 3, (i : Int) + 1, pk x.f5 60, fbS x.f6⟩
def msgsS (l : List S42) (n : Nat) : List S31 := (List.range n).map (fun i => msgS (rd42 l i) i)
theorem msgsS_len (l : List S42) (n : Nat) : (msgsS l n).length = n := by unfold msgsS; simp
theorem msgsS_succ (l : List S42) (n : Nat) : msgsS l (n + 1) = msgsS l n ++ [msgS (rd42 l n) n] := by unfold msgsS; rw [List.range_succ, List.map_append]; rfl
theorem msgsS_at (l : List S42) (n i : Nat) (h : i < n) : rd31 (msgsS l n) i = msgS (rd42 l i) i := by
  unfold rd31 msgsS
  rw [List.getD_eq_getElem?_getD, List.getElem?_map, List.getElem?_range h]; rfl
/-- where the cell may stand: at its start, or at one of n messages -/
def Stand (l : List S42) (n : Nat) (e v u : Int) (bs : List S35) : Prop := (e = 0 ∧ v = 0 ∧ u = 0 ∧ bs = []) ∨ ∃ j, j < n ∧ e = 3 ∧ v = (j : Int) + 1 ∧ u = pk (rd42 l j).f5 60 ∧ bs = fbS (rd42 l j).f6
theorem right_msg {x : S42} {i : Nat} (hi : i < 20) (h5 : I64 x.f5) (h6 : ∀ y ∈ x.f6, I64 y) : rightS 1 0 1 3 ((i : Int) + 1) (pk x.f5 60) (fbS x.f6) = true := by
  have h := pk_in h5 (show (0 : Int) < 60 by decide)
  have hl := fbS_len x.f6
  unfold rightS ranges
  rw [fbS_goods x.f6 h6, decide_eq_true (show (fbS x.f6).length ≤ 64 by omega), decide_eq_true (show 0 ≤ (i : Int) + 1 ∧ (i : Int) + 1 ≤ 1099511627776 by omega), decide_eq_true (show -2199023255552 ≤ pk x.f5 60 ∧ pk x.f5 60 ≤ 2199023255552 by omega)]
  rfl
/-- a message for it takes the cell to itself, or finds it further on -/
theorem stand_step {l : List S42} {n k : Nat} {e v u : Int} {bs : List S35} {T : Bool} (h : Stand l n e v u bs) (hk : k < n) (hr : rightS 1 0 1 3 ((k : Int) + 1) (pk (rd42 l k).f5 60) (fbS (rd42 l k).f6) = true)
    (hT : takesS 0 1 e v 1 0 1 3 ((k : Int) + 1) (pk (rd42 l k).f5 60) (fbS (rd42 l k).f6) = T) :
    Stand l n (if T then 3 else e) (if T then (k : Int) + 1 else v) (if T && !decide ((k : Int) + 1 = 0) then pk (rd42 l k).f5 60 else u) (if T && !decide ((k : Int) + 1 = 0) then fbS (rd42 l k).f6 else bs) ∧ (k : Int) + 1 ≤ (if T then (k : Int) + 1 else v) ∧ v ≤ (if T then (k : Int) + 1 else v) := by
  have hz : decide ((k : Int) + 1 = 0) = false := decide_eq_false (by omega)
  rw [hz]
  have hev : (e = 0 ∧ v = 0) ∨ e = 3 := by rcases h with ⟨h1, h2, _⟩ | ⟨j, _, h1, _⟩; exact .inl ⟨h1, h2⟩; exact .inr h1
  cases T with
  | true =>
    refine ⟨.inr ⟨k, hk, rfl, rfl, rfl, rfl⟩, Int.le_refl _, ?_⟩
    have := (takes_in hT).2.2.2
    show v ≤ (k : Int) + 1
    omega
  | false =>
    refine ⟨h, ?_, Int.le_refl _⟩
    show (k : Int) + 1 ≤ v
    by_cases hlt : e < 3 ∨ e = 3 ∧ v < (k : Int) + 1
    · rw [takes_of ⟨hr, rfl, rfl, .inr ⟨by omega, rfl, hlt⟩⟩] at hT; cases hT
    · omega
theorem stand_len {l : List S42} {n : Nat} {e v u : Int} {bs : List S35} (h : Stand l n e v u bs) : bs.length ≤ 1000 := by
  rcases h with ⟨_, _, _, rfl⟩ | ⟨j, _, _, _, _, rfl⟩
  · decide
  · have := fbS_len (rd42 l j).f6; omega
theorem turn_all {n m : Nat} (hn : 0 < n) : ∃ i, i < n ∧ (i + m) % n = n - 1 := by
  have hr := Nat.mod_lt m hn
  refine ⟨n - 1 - m % n, by omega, ?_⟩
  rw [Nat.add_mod, Nat.mod_eq_of_lt (show n - 1 - m % n < n by omega), show n - 1 - m % n + m % n = n - 1 by omega, Nat.mod_eq_of_lt (by omega)]
theorem rd_mem {os : List Int} {j : Nat} (h : j < os.length) : rd os (j : Int) ∈ os := by
  unfold rd
  rw [Int.toNat_natCast, List.getD_eq_getElem?_getD, List.getElem?_eq_getElem h]
  exact List.getElem_mem h
set_option maxHeartbeats 16000000 in
set_option maxRecDepth 100000 in
theorem last (A : Option Addr) (c : Nat) (l : List S42) (A2 : Option Addr) (c2 : Nat) (os : List Int) (w : World) (hr : Kd.C k42 w A l.length l) (hc : l.length ≤ c) (hV : ∀ x ∈ l, I64 x.f5 ∧ ∀ y ∈ x.f6, I64 y)
    (hr2 : Kd.C (Kd.int .i64) w A2 os.length os) (hc2 : os.length ≤ c2) (ho : os.length ≤ 1000000000000000) (hV2 : ∀ y ∈ os, I64 y) :
    Calls Tryd.prog 5 #[.slice A l.length c, .slice A2 os.length c2] w fun e w' => e = .returned (.bool true) ∧ Below w.heap.size w w' := by
  go_enter Tryd.func5, Tryd.ntmps5
  go_wp2_with fail
  refine (awake_any w w (Below.refl _ _)).mono ?_; rintro ee w1 ⟨rfl, HB1⟩
  go_wp2_with fail
  refine (made_any 0 1 w w1 HB1).mono ?_; rintro ee w2 ⟨g, rfl, HC, HB, -, -⟩
  replace HC := Aside0.mk HC
  replace HB := Aside0.mk HB
  have HA : Aside0 (All w w2 none 0 (msgsS l 0)) := Aside0.mk (Kd.R_nil _ _ _ _ _)
  clear HB1
  go_upto_block 0 with fail
  go_cut [7] (fun s7 wx => ∃ (n cap : Nat) (AA : Option Addr), s7 = .slice AA n cap ∧ n ≤ 20 ∧ n ≤ l.length ∧ Aside0 (All w wx AA cap (msgsS l n)) ∧ Aside0 (Cs w wx g 0 1 0 0 0 []) ∧ Aside0 (Below w.heap.size w wx))
  case first =>
    go_wp2_with fail
    go_loopg [7, 8] 20 (fun kq v7 v8 w' => ∃ (i cap : Nat) (AA : Option Addr), v7 = .slice AA i cap ∧ v8 = .int .i64 (i : Int) ∧ i + kq = 20 ∧ i ≤ l.length ∧ Aside0 (All w w' AA cap (msgsS l i)) ∧ Aside0 (Cs w w' g 0 1 0 0 0 []) ∧ Aside0 (Below w.heap.size w w'))
    case atStart => exact ⟨0, 0, none, rfl, rfl, rfl, Nat.zero_le _, HA, HC, HB⟩
    case round =>
      clear HC HB HA
      obtain ⟨i, cap, AA, rfl, rfl, hik, hil, HA, HC, HB⟩ := hrel
      by_cases h1 : i < l.length ∧ i < 20
      · obtain ⟨m, rfl⟩ : ∃ m, gk = m + 1 := ⟨gk - 1, by omega⟩
        have d1 : decide ((i : Int) < (l.length : Int)) = true := by simp; exact h1.1
        have d2 : decide ((i : Int) < 20) = true := by simp; omega
        have p1 : 0 ≤ (i : Int) := by omega
        have q1 : (i : Int) < (l.length : Int) := by omega
        have e1 : (i : Int).toNat = i := Int.toNat_natCast i
        have bi : (i : Int) ≤ 20 := by omega
        obtain ⟨ad, FB, fc, rfl, hx0, hx1, hx2, hx3, hx4, hx5, hx6, hfc, hFC⟩ := at42 hr i h1.1
        replace p1 := eq_true p1
        replace q1 := eq_true q1
        replace hx0 := cell_up HB.out hx0
        replace hx1 := cell_up HB.out hx1
        replace hx2 := cell_up HB.out hx2
        replace hx3 := cell_up HB.out hx3
        replace hx4 := cell_up HB.out hx4
        replace hx5 := cell_up HB.out hx5
        replace hx6 := cell_up HB.out hx6
        replace hFC := Kd.C_below hFC HB.out
        have hI := (hV _ (rd42_mem h1.1)).2
        have hM : ∀ u b, u = pk (rd42 l i).f5 60 → b = fbS (rd42 l i).f6 → msgS (rd42 l i) i = ⟨1, 0, 1, 3, (i : Int) + 1, u, b⟩ := fun u b h1 h2 => by rw [h1, h2]; rfl
        generalize hX : msgS (rd42 l i) i = XM at hM
        replace hX := Aside0.mk hX
        generalize rd42 l i = X at hx0 hx1 hx2 hx3 hx4 hx5 hx6 hfc hFC hI hM
        go_wp2_with fail
        clear hx0 hx1 hx2 hx3 hx4 hx5 hx6
        refine (fit_any X.f0 X.f1 X.f2 X.f3 X.f4 X.f5 FB fc X.f6 wr hFC hfc hI).mono ?_; rintro ee w5 ⟨MB, md, rfl, hMR, hb5⟩
        have hfl := fbS_len X.f6
        replace hM := hM _ _ rfl rfl
        generalize hmb : fbS X.f6 = mbs at *
        clear hmb hFC hI
        generalize kdS X.f0 = mk
        generalize clS X.f1 = mc
        generalize pk X.f2 3 = mb
        generalize pk X.f3 5 = me
        generalize pk X.f4 7 = mv
        generalize pk X.f5 60 = mu at *
        subst hM
        have hs := HB.out.size
        have HA5 : k31.R 31 w5 w.heap.size (fun _ => True) (.slice AA i cap) (msgsS l i) := by have h := HA.out.below hb5; unfold All at h; rw [msgsS_len] at h; exact h
        have hMR' := Kd.R_alloc (row_apart HA5 (Kd.R_lower hMR hs)) (.cells #[.int .i64 1, .int .i64 0, .int .i64 1, .int .i64 3, .int .i64 ((i : Int) + 1), .int .i64 mu, .slice MB mbs.length md] 31)
        have HA6 := Kd.R_alloc HA5 (.cells #[.int .i64 1, .int .i64 0, .int .i64 1, .int .i64 3, .int .i64 ((i : Int) + 1), .int .i64 mu, .slice MB mbs.length md] 31)
        have HBl := below_alloc (Below.refl w5.heap.size w5) (.cells #[.int .i64 1, .int .i64 0, .int .i64 1, .int .i64 3, .int .i64 ((i : Int) + 1), .int .i64 mu, .slice MB mbs.length md] 31)
        have HC6 := (HC.out.below hb5).below HBl
        have HB5 := HB.out.trans (hb5.mono hs)
        have HB6 := HB5.trans (HBl.mono HB5.size)
        have hs6 := HB6.size
        have hsz : (w5.alloc (.cells #[.int .i64 1, .int .i64 0, .int .i64 1, .int .i64 3, .int .i64 ((i : Int) + 1), .int .i64 mu, .slice MB mbs.length md] 31)).heap.size = w5.heap.size + 1 := by simp
        replace hsz := Aside0.mk hsz
        have ml := msgsS_len l i
        replace ml := Aside0.mk ml
        clear HA HC HB hb5 hMR HA5 HB5 HBl
        go_wp2_with (first | ((with_reducible refine gate_builtin (b := .append) (xs := #[.tmp 39, .tmp 41]) rfl ?_); at_builtin; go_loud (refine Kd.R_append k31 (w0 := w) w.heap.size rfl (.tmp 39) (.tmp 41) 22 31 (.agg #[.int .i64 0, .int .i64 0, .int .i64 0, .int .i64 0, .int .i64 0, .int .i64 0, .slice none 0 0]) 72 rfl Tryd.underlying22 info31 rfl (by decide) (by omega) (.slice AA i cap) (msgsS l i) (⟨1, 0, 1, 3, (i : Int) + 1, mu, mbs⟩ : S31) [.int .i64 1, .int .i64 0, .int .i64 1, .int .i64 3, .int .i64 ((i : Int) + 1), .int .i64 mu, .slice MB mbs.length md] (fun _ => True) (fun k => some k ≠ (Value.slice AA i cap).ownBlock) rfl (by rw [hsz.out]; rfl) ?aP (fun k hk => ⟨trivial, hk⟩) (fun _ _ => trivial) ?aO ?aB ?aS ?aL ?_; (case aP => exact k31_mkM _ _ _ (⟨1, 0, 1, 3, (i : Int) + 1, mu, mbs⟩ : S31) _ hMR'); (case aO => exact HA6); (case aB => exact HB6); (case aS => exact hs6); (case aL => rw [ml.out]; omega); intro v1 w9 ho1 hb1 hg1 hat1; rw [← hX.out, ← msgsS_succ] at ho1; obtain ⟨A9, c9, rfl⟩ := Kd.R_slice ho1; have HC9 := HC6.app HA6 hg1; replace ho1 : All w w9 A9 c9 (msgsS l (i + 1)) := ho1; rw [msgsS_len]; clear HA6 HC6 HB6 hg1 hat1 hMR')))
        go_roundg m
        case measure => omega
        case rel => exact ⟨i + 1, c9, A9, rfl, by rw [Int.natCast_add]; rfl, by omega, by omega, Aside0.mk ho1, Aside0.mk HC9, Aside0.mk hb1⟩
      · by_cases h2 : i < l.length
        · have d1 : decide ((i : Int) < (l.length : Int)) = true := by simp; exact h2
          have d2 : decide ((i : Int) < 20) = false := by simp; omega
          go_wp2_with fail
          go_meet
          exact ⟨i, cap, AA, rfl, by omega, hil, HA, HC, HB⟩
        · have d1 : decide ((i : Int) < (l.length : Int)) = false := by simp; omega
          go_wp2_with fail
          go_meet
          exact ⟨i, cap, AA, rfl, by omega, hil, HA, HC, HB⟩
  case rest =>
    clear HA HC HB
    obtain ⟨n, cap, AA, rfl, hn20, hnl, HA, HC, HB⟩ := hcut
    go_upto_block 2 with fail
    go_cut [] (fun wx => ∃ (e v u : Int) (bs : List S35), Stand l n e v u bs ∧ Aside0 (All w wx AA cap (msgsS l n)) ∧ Aside0 (Cs w wx g 0 1 e v u bs) ∧ Aside0 (Below w.heap.size w wx))
    case first =>
      go_wp2_with fail
      go_loopg [10] 100 (fun kq v10 w' => ∃ (j : Nat) (e v u : Int) (bs : List S35), v10 = .int .i64 (j : Int) ∧ j + kq = 100 ∧ Stand l n e v u bs ∧ Aside0 (All w w' AA cap (msgsS l n)) ∧ Aside0 (Cs w w' g 0 1 e v u bs) ∧ Aside0 (Below w.heap.size w w'))
      case atStart => exact ⟨0, 0, 0, 0, [], rfl, rfl, .inl ⟨rfl, rfl, rfl, rfl⟩, HA, HC, HB⟩
      case round =>
        clear HC HB HA
        obtain ⟨j, e, v, u, bs, rfl, hjk, hS, HA, HC, HB⟩ := hrel
        by_cases h3 : j < os.length
        · have d3 : decide ((j : Int) < (os.length : Int)) = true := by simp; exact h3
          by_cases h4 : j < 100
          · have d4 : decide ((j : Int) < 100) = true := by simp; omega
            by_cases h5 : 0 < n
            · obtain ⟨m, rfl⟩ : ∃ m, gk = m + 1 := ⟨gk - 1, by omega⟩
              have d5 : decide (0 < (n : Int)) = true := by simp; omega
              have b0 : 0 < (n : Int) := by omega
              have p1 : 0 ≤ (j : Int) := by omega
              have q1 : (j : Int) < (os.length : Int) := by omega
              have e1 : (j : Int).toNat = j := Int.toNat_natCast j
              obtain ⟨ad2, rfl, hy⟩ := Kd.at_int hr2 (j : Int) p1 q1
              rw [e1] at hy
              replace hy := cell_up HB.out hy
              have hyI : I64 (rd os (j : Int)) := hV2 _ (rd_mem h3)
              generalize rd os (j : Int) = y at *
              obtain ⟨k, hkn, hky⟩ : ∃ k : Nat, k < n ∧ pk y (n : Int) = (k : Int) := by have h := pk_in hyI b0; exact ⟨(pk y (n : Int)).toNat, by omega, by omega⟩
              obtain ⟨ad, MB, md, rfl, hx0, hx1, hx2, hx3, hx4, hx5, hx6, hmd, hMC⟩ := at31 HA.out.C k (by rw [msgsS_len]; exact hkn)
              have hk20 : k < 20 := by omega
              have hkl : k < l.length := by omega
              obtain ⟨hV5, hV6⟩ := hV _ (rd42_mem hkl)
              have hright := right_msg hk20 hV5 hV6
              rw [msgsS_at l n k hkn] at hx0 hx1 hx2 hx3 hx4 hx5 hx6 hmd hMC
              replace hx0 : wr.cell? (ad.add (k * 7)) = some (.int .i64 1) := hx0
              replace hx1 : wr.cell? ⟨(ad.add (k * 7)).block, (ad.add (k * 7)).off + 1, none⟩ = some (.int .i64 0) := hx1
              replace hx2 : wr.cell? ⟨(ad.add (k * 7)).block, (ad.add (k * 7)).off + 2, none⟩ = some (.int .i64 1) := hx2
              replace hx3 : wr.cell? ⟨(ad.add (k * 7)).block, (ad.add (k * 7)).off + 3, none⟩ = some (.int .i64 3) := hx3
              replace hx4 : wr.cell? ⟨(ad.add (k * 7)).block, (ad.add (k * 7)).off + 4, none⟩ = some (.int .i64 ((k : Int) + 1)) := hx4
              replace hx5 : wr.cell? ⟨(ad.add (k * 7)).block, (ad.add (k * 7)).off + 5, none⟩ = some (.int .i64 (pk (rd42 l k).f5 60)) := hx5
              replace hx6 : wr.cell? ⟨(ad.add (k * 7)).block, (ad.add (k * 7)).off + 6, none⟩ = some (.slice MB (fbS (rd42 l k).f6).length md) := hx6
              replace hmd : (fbS (rd42 l k).f6).length ≤ md := hmd
              replace hMC : Kd.C k35 wr MB (fbS (rd42 l k).f6).length (fbS (rd42 l k).f6) := hMC
              have hfl := fbS_len (rd42 l k).f6
              generalize hT : takesS 0 1 e v 1 0 1 3 ((k : Int) + 1) (pk (rd42 l k).f5 60) (fbS (rd42 l k).f6) = T
              obtain ⟨hS7, hv7, hv8⟩ := stand_step hS hkn hright hT
              replace hS7 := Aside0.mk hS7
              replace hv7 := Aside0.mk hv7
              replace hv8 := Aside0.mk hv8
              clear hright
              generalize pk (rd42 l k).f5 60 = mu at *
              generalize fbS (rd42 l k).f6 = mbs at *
              have p2 : 0 ≤ (k : Int) := by omega
              have q2 : (k : Int) < (n : Int) := by omega
              have e2 : (k : Int).toNat = k := Int.toNat_natCast k
              replace p2 := eq_true p2
              replace q2 := eq_true q2
              have nz : (n : Int) ≠ 0 := by omega
              replace p1 := eq_true p1
              replace q1 := eq_true q1
              replace hky := Aside0.mk hky
              replace nz := Aside0.mk nz
              clear b0
              go_wp2_with (go_at_call 20; refine (pick_any y (n : Int) _ nz.out).mono ?_; rintro ee w' ⟨rfl, rfl⟩; rw [hky.out])
              clear hx0 hx1 hx2 hx3 hx4 hx5 hx6
              refine (recv_T g 0 1 e v u bs 1 0 1 3 ((k : Int) + 1) mu MB md mbs w wr T HC.out HB.out hMC hmd (by omega) hT).mono ?_; rintro ee w7 ⟨rfl, HC7, HB7, hk7⟩
              have HA7 := HC.out.keepAll HA.out hk7
              go_wp2_with fail
              go_roundg m
              case measure => omega
              case rel => exact ⟨j + 1, _, _, _, _, by rw [Int.natCast_add]; rfl, by omega, hS7.out, Aside0.mk HA7, Aside0.mk HC7, Aside0.mk HB7⟩
            · have d5 : decide (0 < (n : Int)) = false := by simp; omega
              go_wp2_with fail
              go_meet
              exact ⟨e, v, u, bs, hS, HA, HC, HB⟩
          · have d4 : decide ((j : Int) < 100) = false := by simp; omega
            go_wp2_with fail
            go_meet
            exact ⟨e, v, u, bs, hS, HA, HC, HB⟩
        · have d3 : decide ((j : Int) < (os.length : Int)) = false := by simp; omega
          go_wp2_with fail
          go_meet
          exact ⟨e, v, u, bs, hS, HA, HC, HB⟩
    case rest =>
      clear HA HC HB
      obtain ⟨e, v, u, bs, hS, HA, HC, HB⟩ := hcut
      go_upto_block 4 with fail
      go_cut [] (fun wx => ∃ (e v u : Int) (bs : List S35), Stand l n e v u bs ∧ (0 < n → (n : Int) ≤ v) ∧ Aside0 (All w wx AA cap (msgsS l n)) ∧ Aside0 (Cs w wx g 0 1 e v u bs) ∧ Aside0 (Below w.heap.size w wx))
      case first =>
        go_wp2_with fail
        go_loopg [11] n (fun kq v11 w' => ∃ (j : Nat) (e v u : Int) (bs : List S35), v11 = .int .i64 (j : Int) ∧ j + kq = n ∧ Stand l n e v u bs ∧ (∀ i, i < j → (((i + os.length) % n : Nat) : Int) + 1 ≤ v) ∧ Aside0 (All w w' AA cap (msgsS l n)) ∧ Aside0 (Cs w w' g 0 1 e v u bs) ∧ Aside0 (Below w.heap.size w w'))
        case atStart => exact ⟨0, e, v, u, bs, rfl, by omega, hS, fun i hi => absurd hi (Nat.not_lt_zero _), HA, HC, HB⟩
        case round =>
          clear HC HB HA hS
          clear e v u bs
          obtain ⟨j, e, v, u, bs, rfl, hjk, hS, hpast, HA, HC, HB⟩ := hrel
          by_cases h3 : j < n
          · obtain ⟨m, rfl⟩ : ∃ m, gk = m + 1 := ⟨gk - 1, by omega⟩
            have d3 : decide ((j : Int) < (n : Int)) = true := by simp; exact h3
            have p1 : 0 ≤ (j : Int) + (os.length : Int) := by omega
            have b0 : 0 < (n : Int) := by omega
            have b1 : (n : Int) ≤ 20 := by omega
            have b2 : (os.length : Int) ≤ 1000000000000000 := by omega
            have b3 : (j : Int) ≤ 20 := by omega
            obtain ⟨k, hk⟩ : ∃ k, k = (j + os.length) % n := ⟨_, rfl⟩
            have hkn : k < n := by rw [hk]; exact Nat.mod_lt _ (by omega)
            have hki : ((j : Int) + (os.length : Int)) % (n : Int) = (k : Int) := by rw [hk, Int.natCast_emod, Int.natCast_add]
            replace hk := Aside0.mk hk
            replace hpast := Aside0.mk hpast
            obtain ⟨ad, MB, md, rfl, hx0, hx1, hx2, hx3, hx4, hx5, hx6, hmd, hMC⟩ := at31 HA.out.C k (by rw [msgsS_len]; exact hkn)
            have hk20 : k < 20 := by omega
            have hkl : k < l.length := by omega
            obtain ⟨hV5, hV6⟩ := hV _ (rd42_mem hkl)
            have hright := right_msg hk20 hV5 hV6
            rw [msgsS_at l n k hkn] at hx0 hx1 hx2 hx3 hx4 hx5 hx6 hmd hMC
            replace hx0 : wr.cell? (ad.add (k * 7)) = some (.int .i64 1) := hx0
            replace hx1 : wr.cell? ⟨(ad.add (k * 7)).block, (ad.add (k * 7)).off + 1, none⟩ = some (.int .i64 0) := hx1
            replace hx2 : wr.cell? ⟨(ad.add (k * 7)).block, (ad.add (k * 7)).off + 2, none⟩ = some (.int .i64 1) := hx2
            replace hx3 : wr.cell? ⟨(ad.add (k * 7)).block, (ad.add (k * 7)).off + 3, none⟩ = some (.int .i64 3) := hx3
            replace hx4 : wr.cell? ⟨(ad.add (k * 7)).block, (ad.add (k * 7)).off + 4, none⟩ = some (.int .i64 ((k : Int) + 1)) := hx4
            replace hx5 : wr.cell? ⟨(ad.add (k * 7)).block, (ad.add (k * 7)).off + 5, none⟩ = some (.int .i64 (pk (rd42 l k).f5 60)) := hx5
            replace hx6 : wr.cell? ⟨(ad.add (k * 7)).block, (ad.add (k * 7)).off + 6, none⟩ = some (.slice MB (fbS (rd42 l k).f6).length md) := hx6
            replace hmd : (fbS (rd42 l k).f6).length ≤ md := hmd
            replace hMC : Kd.C k35 wr MB (fbS (rd42 l k).f6).length (fbS (rd42 l k).f6) := hMC
            have hfl := fbS_len (rd42 l k).f6
            generalize hT : takesS 0 1 e v 1 0 1 3 ((k : Int) + 1) (pk (rd42 l k).f5 60) (fbS (rd42 l k).f6) = T
            obtain ⟨hS7, hv7, hv8⟩ := stand_step hS hkn hright hT
            replace hS7 := Aside0.mk hS7
            replace hv7 := Aside0.mk hv7
            replace hv8 := Aside0.mk hv8
            clear hright
            generalize pk (rd42 l k).f5 60 = mu at *
            generalize fbS (rd42 l k).f6 = mbs at *
            have p2 : 0 ≤ (k : Int) := by omega
            have q2 : (k : Int) < (n : Int) := by omega
            have e2 : (k : Int).toNat = k := Int.toNat_natCast k
            replace p2 := eq_true p2
            replace q2 := eq_true q2
            go_wp2_with fail
            clear hx0 hx1 hx2 hx3 hx4 hx5 hx6 hki
            refine (recv_T g 0 1 e v u bs 1 0 1 3 ((k : Int) + 1) mu MB md mbs w wr T HC.out HB.out hMC hmd (by omega) hT).mono ?_; rintro ee w7 ⟨rfl, HC7, HB7, hk7⟩
            have HA7 := HC.out.keepAll HA.out hk7
            go_wp2_with fail
            go_roundg m
            case measure => omega
            case rel =>
              refine ⟨j + 1, _, _, _, _, by rw [Int.natCast_add]; rfl, by omega, hS7.out, fun i hi => ?_, Aside0.mk HA7, Aside0.mk HC7, Aside0.mk HB7⟩
              rcases Nat.lt_succ_iff_lt_or_eq.1 hi with hi | rfl
              · exact Int.le_trans (hpast.out i hi) hv8.out
              · rw [← hk.out]; exact hv7.out
          · have d3 : decide ((j : Int) < (n : Int)) = false := by simp; omega
            go_wp2_with fail
            go_meet
            refine ⟨e, v, u, bs, hS, fun hp => ?_, HA, HC, HB⟩
            obtain ⟨i, hi, hin⟩ := turn_all (m := os.length) hp
            have := hpast i (by omega)
            rw [hin] at this
            omega
      case rest =>
        clear HA HC HB hS
        clear e v u bs
        obtain ⟨e, v, u, bs, hS, htop, HA, HC, HB⟩ := hcut
        by_cases hn0 : n = 0
        · subst hn0
          obtain ⟨rfl, rfl, rfl, rfl⟩ : e = 0 ∧ v = 0 ∧ u = 0 ∧ bs = [] := by rcases hS with h | ⟨j, hj, _⟩; exact h; omega
          go_wp2_with fail
          refine (rep_any g 0 1 0 0 0 [] w wc HC.out (by decide)).mono ?_; rintro ee w8 ⟨R8, rfl, hR8, hb8⟩
          have HB8 := HB.out.trans (hb8.mono HB.out.size)
          clear HA HC HB hb8 hR8
          go_wp2_with fail
          go_ret
          exact ⟨rfl, below_alloc HB8 _⟩
        · have hbl := stand_len hS
          have htop' := htop (by omega)
          obtain ⟨j, hj, rfl, rfl, rfl, rfl⟩ : ∃ j, j < n ∧ e = 3 ∧ v = (j : Int) + 1 ∧ u = pk (rd42 l j).f5 60 ∧ bs = fbS (rd42 l j).f6 := by rcases hS with ⟨_, h, _⟩ | h; omega; exact h
          obtain rfl : n = j + 1 := by omega
          have hne0 : (((j + 1 : Nat) : Int) == 0) = false := by rw [beq_eq_false_iff_ne]; omega
          clear htop htop' hS hn0
          go_wp2_with fail
          refine (rep_any g 0 1 3 ((j : Int) + 1) (pk (rd42 l j).f5 60) (fbS (rd42 l j).f6) w wc HC.out (by omega)).mono ?_; rintro ee w8 ⟨R8, rfl, hR8, hb8⟩
          have hs := HB.out.size
          have HB8 := HB.out.trans (hb8.mono hs)
          have hRo : Row w w8 R8 (fbS (rd42 l j).f6) := Made.row hR8 hs
          have HA8 := HA.out.below hb8
          have HAl := below_alloc (Below.refl w8.heap.size w8) (.cells #[.int .i64 2, .int .i64 0, .int .i64 1, .int .i64 3, .int .i64 ((j : Int) + 1), .int .i64 (pk (rd42 l j).f5 60), .slice R8 (fbS (rd42 l j).f6).length (fbS (rd42 l j).f6).length] 31)
          have HA9 := HA8.below HAl
          have hRo9 := hRo.below HAl
          have HB9 := HB8.trans (HAl.mono HB8.size)
          obtain ⟨ad, MB, md, rfl, hx0, hx1, hx2, hx3, hx4, hx5, hx6, hmd, hMC⟩ := at31 HA9.C j (by rw [msgsS_len]; omega)
          rw [msgsS_at l (j + 1) j (by omega)] at hx0 hx1 hx2 hx3 hx4 hx5 hx6 hmd hMC
          replace hx0 : (w8.alloc _).cell? (ad.add (j * 7)) = some (.int .i64 1) := hx0
          replace hx1 : (w8.alloc _).cell? ⟨(ad.add (j * 7)).block, (ad.add (j * 7)).off + 1, none⟩ = some (.int .i64 0) := hx1
          replace hx2 : (w8.alloc _).cell? ⟨(ad.add (j * 7)).block, (ad.add (j * 7)).off + 2, none⟩ = some (.int .i64 1) := hx2
          replace hx3 : (w8.alloc _).cell? ⟨(ad.add (j * 7)).block, (ad.add (j * 7)).off + 3, none⟩ = some (.int .i64 3) := hx3
          replace hx4 : (w8.alloc _).cell? ⟨(ad.add (j * 7)).block, (ad.add (j * 7)).off + 4, none⟩ = some (.int .i64 ((j : Int) + 1)) := hx4
          replace hx5 : (w8.alloc _).cell? ⟨(ad.add (j * 7)).block, (ad.add (j * 7)).off + 5, none⟩ = some (.int .i64 (pk (rd42 l j).f5 60)) := hx5
          replace hx6 : (w8.alloc _).cell? ⟨(ad.add (j * 7)).block, (ad.add (j * 7)).off + 6, none⟩ = some (.slice MB (fbS (rd42 l j).f6).length md) := hx6
          replace hmd : (fbS (rd42 l j).f6).length ≤ md := hmd
          replace hMC : Kd.C k35 (w8.alloc _) MB (fbS (rd42 l j).f6).length (fbS (rd42 l j).f6) := hMC
          clear HA HC HB hb8 hR8 hs HAl HA8 hRo HA9
          generalize pk (rd42 l j).f5 60 = mu at *
          generalize fbS (rd42 l j).f6 = mbs at *
          have es : ((j + 1 : Nat) : Int) - 1 = (j : Int) := by omega
          have p2 : 0 ≤ (j : Int) := by omega
          have q2 : (j : Int) < ((j + 1 : Nat) : Int) := by omega
          have e2 : (j : Int).toNat = j := Int.toNat_natCast j
          have b1 : ((j + 1 : Nat) : Int) ≤ 20 := by omega
          replace p2 := eq_true p2
          replace q2 := eq_true q2
          go_wp2_with fail
          have HAl2 := below_alloc (Below.refl (w8.alloc (.cells #[.int .i64 2, .int .i64 0, .int .i64 1, .int .i64 3, .int .i64 ((j : Int) + 1), .int .i64 mu, .slice R8 mbs.length mbs.length] 31)).heap.size (w8.alloc (.cells #[.int .i64 2, .int .i64 0, .int .i64 1, .int .i64 3, .int .i64 ((j : Int) + 1), .int .i64 mu, .slice R8 mbs.length mbs.length] 31))) (.cells #[.int .i64 2, .int .i64 0, .int .i64 1, .int .i64 3, .int .i64 ((j : Int) + 1), .int .i64 mu, .slice MB mbs.length md] 31)
          have HB10 := HB9.trans (HAl2.mono HB9.size)
          refine (msame_any 2 0 1 3 ((j : Int) + 1) mu R8 MB mbs.length md mbs _ (Kd.C_below hRo9.C HAl2) (Nat.le_refl _) (Kd.C_below hMC HAl2) hmd (by omega)).mono ?_; rintro ee w11 ⟨rfl, hb11⟩
          have HB11 := HB10.trans (hb11.mono HB10.size)
          clear hx0 hx1 hx2 hx3 hx4 hx5 hx6 hRo9 hMC HB9 HB10 HAl2 hb11
          go_wp2_with fail
          go_ret
          exact ⟨rfl, HB11⟩
theorem last_row (A : Option Addr) (c : Nat) (l : List S42) (A2 : Option Addr) (c2 : Nat) (os : List Int) (w : World) (hr : Kd.C k42 w A l.length l) (hc : l.length ≤ c) {p q : Prop} {a0 a1 a2 a3 a4 a6 a7 : S42 → Prop} (hV : p ∧ q ∧ ∀ x ∈ l, a0 x ∧ a1 x ∧ a2 x ∧ a3 x ∧ a4 x ∧ (Lit.int .i64 x.f5).wf = true ∧ a6 x ∧ a7 x ∧ ∀ y ∈ x.f6, (Lit.int .i64 y).wf = true)
    (hr2 : Kd.C (Kd.int .i64) w A2 os.length os) (hc2 : os.length ≤ c2) {r : Prop} (hV2 : r ∧ os.length * 8 ≤ 140737488351232 ∧ ∀ y ∈ os, (Lit.int .i64 y).wf = true) :
    Calls Tryd.prog 5 #[.slice A l.length c, .slice A2 os.length c2] w fun e w' => e = .returned (.bool true) ∧ Below w.heap.size w w' :=
  last A c l A2 c2 os w hr hc (fun x hx => ⟨wf_i64 (hV.2.2 x hx).2.2.2.2.2.1, fun y hy => wf_i64 ((hV.2.2 x hx).2.2.2.2.2.2.2.2 y hy)⟩) hr2 hc2 (by have := hV2.2.1; omega) (fun y hy => wf_i64 (hV2.2.2 y hy))
end Go.Proofs.YtpgifeoigconbaaDoor.Cl
