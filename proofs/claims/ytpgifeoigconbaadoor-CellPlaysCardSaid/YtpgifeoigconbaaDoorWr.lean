/- A cell between calls: what stays, what a message changes. -/
import Derived.Test.YtpgifeoigconbaaDoorRx
import Derived.Test.YtpgifeoigconbaaDoorFt
import Derived.Test.YtpgifeoigconbaaDoorSa
namespace Go.Proofs.YtpgifeoigconbaaDoor.Cl
set_option linter.unusedVariables false
set_option linter.unusedSimpArgs false
open Go.RowKit Go.Proofs.YtpgifeoigconbaaDoorW.PrintWords Go.Proofs.YtpgifeoigconbaaDoorW.PrintLast Go.Proofs.YtpgifeoigconbaaDoor.Mo Go.Proofs.YtpgifeoigconbaaDoor.Q Go.Proofs.YtpgifeoigconbaaDoor.Rt
variable {ok : Nat → Prop}
/-- a cell between calls -/
def Cs (ok : Nat → Prop) (w0 W : World) (g : Nat) (n b e v u : Int) (bs : List S35) : Prop := ∃ V, Ce ok 51 w0 W g n b e v u V bs
theorem Cs.below {w0 W W1 : World} {g : Nat} {n b e v u : Int} {bs : List S35} (h : Cs ok w0 W g n b e v u bs) (hb : Below W.heap.size W W1) : Cs ok w0 W1 g n b e v u bs := by
  obtain ⟨V, h⟩ := h
  exact ⟨V, h.below hb⟩
theorem Cs.lt {w0 W : World} {g : Nat} {n b e v u : Int} {bs : List S35} (h : Cs ok w0 W g n b e v u bs) : g < W.heap.size := by
  obtain ⟨V, h⟩ := h
  exact blk_lt h.1
theorem Cs.ge {w0 W : World} {g : Nat} {n b e v u : Int} {bs : List S35} (h : Cs ok w0 W g n b e v u bs) : w0.heap.size ≤ g := by
  obtain ⟨V, h⟩ := h
  exact h.2.1
/-- what is not of a cell's type is not at its block -/
theorem Cs.ne {w0 W : World} {g o t : Nat} {n b e v u : Int} {bs : List S35} {cs : Array Value} (h : Cs ok w0 W g n b e v u bs) (ho : W.heap[o]? = some (.cells cs t (0, 0))) (ht : (51 : Nat) ≠ t) : o ≠ g := by
  obtain ⟨V, h⟩ := h
  rintro rfl
  rw [h.1] at ho; injection ho with ho; injection ho with _ ho; exact ht ho
theorem keep_blk {w w' : World} {g o : Nat} {x : Obj} (hk : KeepBut w w' g none) (ho : w.heap[o]? = some x) (hne : o ≠ g) : w'.heap[o]? = some x := (hk.2 o (blk_lt ho) hne (by simp)).trans ho
/-- binds that stand in a row of a call's own -/
def Row (w0 w : World) (A : Option Addr) (bs : List S35) : Prop := ∃ c, k35.R 35 w w0.heap.size (fun _ => True) (.slice A bs.length c) bs
theorem Made.row {w0 w w' : World} {A : Option Addr} {bs : List S35} (h : Made w w' A bs) (hw : w0.heap.size ≤ w.heap.size) : Row w0 w' A bs := by
  obtain ⟨c, h⟩ := h
  exact ⟨c, Kd.R_lower h hw⟩
theorem Row.C {w0 w : World} {A : Option Addr} {bs : List S35} (h : Row w0 w A bs) : Kd.C k35 w A bs.length bs := by
  obtain ⟨c, h⟩ := h
  exact (Kd.R_reads' h).2.2
theorem Row.below {w0 w w' : World} {A : Option Addr} {bs : List S35} (h : Row w0 w A bs) (hb : Below w.heap.size w w') : Row w0 w' A bs := by
  obtain ⟨c, h⟩ := h
  exact ⟨c, Kd.R_below h hb⟩
theorem Row.set {w0 w : World} {A : Option Addr} {bs : List S35} {o t : Nat} {cs : Array Value} (h : Row w0 w A bs) (ho : w.heap[o]? = some (.cells cs t (0, 0))) (ht : (35 : Nat) ≠ t) (k : Nat) (y : Value) : Row w0 (w.setCell ⟨o, k, none⟩ y) A bs := by
  obtain ⟨c, h⟩ := h
  exact ⟨c, Kd.R_set h ho (fun q hq => by simp [k35, Kd.iso, Kd.pair, Kd.string, Kd.int, Kd.scalar] at hq; subst hq; exact ht) k y⟩
/-- a row stays where a cell is written: the cell's block is of another type -/
theorem Row.keep {w0 w w' : World} {A : Option Addr} {bs : List S35} {g n t : Nat} {cs : Array Value} (h : Row w0 w A bs) (hg : w.heap[g]? = some (.cells cs t (0, 0))) (ht : (35 : Nat) ≠ t) (hk : KeepBut w w' g none) : Row w0 w' A bs := by
  obtain ⟨c, h⟩ := h
  exact ⟨c, Kd.R_mono (Kd.R_keep (Kd.R_types h hg (fun q hq => by simp [k35, Kd.iso, Kd.pair, Kd.string, Kd.int, Kd.scalar] at hq; subst hq; exact ht)) hk (fun k hk => hk.2)) (fun _ _ => trivial)⟩
theorem Cs.set {w0 W : World} {g o t k : Nat} {n b e v u : Int} {bs : List S35} {cs : Array Value} (h : Cs ok w0 W g n b e v u bs) (ho : W.heap[o]? = some (.cells cs t (0, 0))) (h1 : (51 : Nat) ≠ t) (h2 : (35 : Nat) ≠ t) (y : Value) : Cs ok w0 (W.setCell ⟨o, k, none⟩ y) g n b e v u bs := by
  have hne := h.ne ho h1
  obtain ⟨V, h⟩ := h
  refine ⟨V, blk_far (p := ⟨o, k, none⟩) h.1 (fun e => hne e.symm) _, h.2.1, ?_⟩
  exact Kd.R_set h.2.2 ho (fun q hq => by simp [k35, Kd.iso, Kd.pair, Kd.string, Kd.int, Kd.scalar] at hq; subst hq; exact h2) k y
theorem Cs.keepRow {w0 w w' : World} {A : Option Addr} {xs : List S35} {g : Nat} {n b e v u : Int} {bs : List S35} (hc : Cs ok w0 w g n b e v u bs) (h : Row w0 w A xs) (hk : KeepBut w w' g none) : Row w0 w' A xs := by
  obtain ⟨V, hc⟩ := hc
  exact Row.keep (n := 0) h hc.1 (by decide) hk
theorem recv_yes (g : Nat) (n b e v u : Int) (bs : List S35) (mk mc mb me mv mu : Int) (A : Option Addr) (c : Nat) (mbs : List S35) (w0 w : World)
    (h : Cs ok w0 w g n b e v u bs) (hB : Below w0.heap.size w0 w) (hC : Kd.C k35 w A mbs.length mbs) (hc : mbs.length ≤ c) (hml : mbs.length ≤ 2000000000000) (hT : takesS n b e v mk mc mb me mv mu mbs = true) (hok : ∀ k, w.heap.size ≤ k → ok k) :
    Calls Tryd.prog 11 #[.pointer (some ⟨g, 0, none⟩), .agg #[.int .i64 mk, .int .i64 mc, .int .i64 mb, .int .i64 me, .int .i64 mv, .int .i64 mu, .slice A mbs.length c]] w fun ee w' =>
      ee = .returned (.bool true) ∧ Cs ok w0 w' g n b me mv (if mv = 0 then u else mu) (if mv = 0 then bs else mbs) ∧ Below w0.heap.size w0 w' ∧ KeepBut w w' g none := by
  obtain ⟨V, h⟩ := h
  refine (recv_any g n b e v u V bs mk mc mb me mv mu A c mbs w0 w h hB hC hc hml hok).mono ?_
  rintro ee w' ⟨T, hh, rfl, h1, h2, h3⟩
  rw [hT] at hh
  subst hh
  refine ⟨rfl, ?_, h2, h3⟩
  by_cases hz : mv = 0
  · rw [if_pos hz, if_pos hz]; rw [decide_eq_true hz] at h1; exact h1
  · rw [if_neg hz, if_neg hz]; rw [decide_eq_false hz] at h1; exact h1
theorem recv_no (g : Nat) (n b e v u : Int) (bs : List S35) (mk mc mb me mv mu : Int) (A : Option Addr) (c : Nat) (mbs : List S35) (w0 w : World)
    (h : Cs ok w0 w g n b e v u bs) (hB : Below w0.heap.size w0 w) (hC : Kd.C k35 w A mbs.length mbs) (hc : mbs.length ≤ c) (hml : mbs.length ≤ 2000000000000) (hT : takesS n b e v mk mc mb me mv mu mbs = false) (hok : ∀ k, w.heap.size ≤ k → ok k) :
    Calls Tryd.prog 11 #[.pointer (some ⟨g, 0, none⟩), .agg #[.int .i64 mk, .int .i64 mc, .int .i64 mb, .int .i64 me, .int .i64 mv, .int .i64 mu, .slice A mbs.length c]] w fun ee w' =>
      ee = .returned (.bool false) ∧ Cs ok w0 w' g n b e v u bs ∧ Below w0.heap.size w0 w' ∧ KeepBut w w' g none := by
  obtain ⟨V, h⟩ := h
  refine (recv_any g n b e v u V bs mk mc mb me mv mu A c mbs w0 w h hB hC hc hml hok).mono ?_
  rintro ee w' ⟨T, hh, rfl, h1, h2, h3⟩
  rw [hT] at hh
  subst hh
  exact ⟨rfl, h1, h2, h3⟩
theorem rep_any (g : Nat) (n b e v u : Int) (bs : List S35) (w0 w : World) (h : Cs ok w0 w g n b e v u bs) (hl : bs.length ≤ 2000000000000) :
    Calls Tryd.prog 15 #[.pointer (some ⟨g, 0, none⟩)] w fun ee w' => ∃ A, ee = .returned (.agg #[.int .i64 2, .int .i64 n, .int .i64 b, .int .i64 e, .int .i64 v, .int .i64 u, .slice A bs.length bs.length]) ∧ Made w w' A bs ∧ Below w.heap.size w w' := by
  obtain ⟨V, h⟩ := h
  refine (report_any g n b e v u V bs w0 w h hl).mono ?_
  rintro ee w' ⟨A, rfl, hm, hb⟩
  exact ⟨A, rfl, hm, hb⟩
theorem run_any (g : Nat) (n b e v u now : Int) (bs : List S35) (w0 w : World) (h : Cs ok w0 w g n b e v u bs) (hl : bs.length ≤ 2000000000000) :
    Calls Tryd.prog 17 #[.pointer (some ⟨g, 0, none⟩), .int .i64 now] w fun ee w' => ∃ A c, ee = .returned (.slice A (runS now u bs).length c) ∧ (runS now u bs).length ≤ c ∧ Made w w' A (runS now u bs) ∧ Below w.heap.size w w' := by
  obtain ⟨V, h⟩ := h
  refine (running_any g n b e v u now V bs w0 w h hl).mono ?_
  rintro ee w' ⟨A, c, rfl, hc, hm, hb⟩
  exact ⟨A, c, rfl, hc, hm, hb⟩
theorem made_any (n b : Int) (w0 w : World) (hB : Below w0.heap.size w0 w) :
    Calls Tryd.prog 9 #[.int .i64 n, .int .i64 b] w fun ee w' => ∃ g : Nat, ee = .returned (.pointer (some ⟨g, 0, none⟩)) ∧ Cs ok w0 w' g n b 0 0 0 [] ∧ Below w0.heap.size w0 w' ∧ Below w.heap.size w w' ∧ w.heap.size ≤ g := by
  refine (new_any (ok := ok) n b w0 w hB).mono ?_
  rintro ee w' ⟨g, rfl, h, h1, h2, h3⟩
  exact ⟨g, rfl, ⟨_, h⟩, h1, h2, h3⟩
/-- the same message is the same -/
theorem msame_any (a0 a1 a2 a3 a4 a5 : Int) (A B : Option Addr) (c d : Nat) (l : List S35) (w : World) (hA : Kd.C k35 w A l.length l) (hc : l.length ≤ c) (hB : Kd.C k35 w B l.length l) (hd : l.length ≤ d) (hl : l.length ≤ 2000000000000) :
    Calls Tryd.prog 14 #[.agg #[.int .i64 a0, .int .i64 a1, .int .i64 a2, .int .i64 a3, .int .i64 a4, .int .i64 a5, .slice A l.length c], .agg #[.int .i64 a0, .int .i64 a1, .int .i64 a2, .int .i64 a3, .int .i64 a4, .int .i64 a5, .slice B l.length d]] w fun ee w' => ee = .returned (.bool true) ∧ Below w.heap.size w w' :=
  billetlaw16_Same.calls (l.length + 2) a0 a1 a2 a3 a4 a5 A c l a0 a1 a2 a3 a4 a5 B d l true w hA hc hB hd (msame_refl a0 a1 a2 a3 a4 a5 l (by omega))
theorem lsame_any (A B : Option Addr) (c d : Nat) (l : List S35) (w : World) (hA : Kd.C k35 w A l.length l) (hc : l.length ≤ c) (hB : Kd.C k35 w B l.length l) (hd : l.length ≤ d) (hl : l.length ≤ 2000000000000) :
    Calls Tryd.prog 13 #[.slice A l.length c, .slice B l.length d] w fun ee w' => ee = .returned (.bool true) ∧ Drawn0 w w' :=
  billetlaw08_Same.calls (l.length + 2) A c l B d l true w hA hc hB hd (same_refl l (by omega))
theorem takes_in {n b e v mk mc mb me mv mu : Int} {l : List S35} (h : takesS n b e v mk mc mb me mv mu l = true) : rightS mk mc mb me mv mu l = true ∧ mk = 1 ∧ mc = n ∧ (mv = 0 ∧ e < me ∨ mv ≠ 0 ∧ mb = b ∧ (e < me ∨ e = me ∧ v < mv)) := by
  unfold takesS at h
  simp only [Bool.and_eq_true, decide_eq_true_eq] at h
  obtain ⟨h1, h2, h3, h4⟩ := h
  refine ⟨h1, h2, h3, ?_⟩
  by_cases hz : mv = 0
  · rw [if_pos hz, decide_eq_true_eq] at h4; exact .inl ⟨hz, h4⟩
  · rw [if_neg hz] at h4
    unfold aheadS at h4
    simp only [Bool.and_eq_true, Bool.or_eq_true, decide_eq_true_eq] at h4
    exact .inr ⟨hz, h4.1, h4.2⟩
theorem fold_len : ∀ (xs : List S35) (o : List S35), (xs.foldl (fun o b => ins1 (more1 b) false o) o).length ≤ o.length + xs.length
  | [], o => by simp
  | x :: xs, o => by
    have h1 := fold_len xs (ins1 (more1 x) false o)
    have h2 := ins1_len (more1 x) false o
    simp at *
    omega
theorem fbS_len (l : List Int) : (fbS l).length ≤ 20 := by
  have h1 := fold_len (rawS l) []
  have h2 := rawS_len l
  unfold fbS
  simp at *
  omega
theorem cell_up {w w' : World} {a : Addr} {v : Value} (hB : Below w.heap.size w w') (hx : w.cell? a = some v) : w'.cell? a = some v := (hB.cell (World.block_lt_of_cell? w _ hx)).trans hx
theorem rd42_mem {l : List S42} {i : Nat} (h : i < l.length) : rd42 l i ∈ l := by
  unfold rd42
  rw [List.getD_eq_getElem?_getD, List.getElem?_eq_getElem h]
  exact List.getElem_mem h
theorem takes_of {n b e v mk mc mb me mv mu : Int} {l : List S35} (h : rightS mk mc mb me mv mu l = true ∧ mk = 1 ∧ mc = n ∧ (mv = 0 ∧ e < me ∨ mv ≠ 0 ∧ mb = b ∧ (e < me ∨ e = me ∧ v < mv))) : takesS n b e v mk mc mb me mv mu l = true := by
  obtain ⟨h1, h2, h3, h4⟩ := h
  unfold takesS
  rw [h1, decide_eq_true h2, decide_eq_true h3]
  rcases h4 with ⟨h4, h5⟩ | ⟨h4, h5, h6⟩
  · rw [if_pos h4, decide_eq_true h5]; rfl
  · rw [if_neg h4, decide_eq_true h5]
    unfold aheadS
    rcases h6 with h6 | ⟨h6, h7⟩
    · rw [decide_eq_true h6]; rfl
    · rw [decide_eq_true h6, decide_eq_true h7]; simp
/-- what is refused is refused ever after -/
theorem refused_mono {n b e v e' v' mk mc mb me mv mu : Int} {l : List S35} (h : takesS n b e v mk mc mb me mv mu l = false) (hle : e < e' ∨ e = e' ∧ v ≤ v') : takesS n b e' v' mk mc mb me mv mu l = false := by
  cases ht : takesS n b e' v' mk mc mb me mv mu l with
  | false => rfl
  | true =>
    obtain ⟨h1, h2, h3, h4⟩ := takes_in ht
    rw [takes_of ⟨h1, h2, h3, by omega⟩] at h
    cases h
theorem refused_now {n b e v mk mc mb me mv mu : Int} {l : List S35} {T : Bool} (h : takesS n b e v mk mc mb me mv mu l = T) : takesS n b (if T then me else e) (if T then mv else v) mk mc mb me mv mu l = false := by
  cases T with
  | false => exact h
  | true =>
    cases ht : takesS n b me mv mk mc mb me mv mu l with
    | false => exact ht
    | true => exact absurd (takes_in ht).2.2.2 (by omega)
theorem later {n b e v mk mc mb me mv mu : Int} {l : List S35} {T : Bool} (h : takesS n b e v mk mc mb me mv mu l = T) : e < (if T then me else e) ∨ e = (if T then me else e) ∧ v ≤ (if T then mv else v) := by
  cases T with
  | false => exact .inr ⟨rfl, Int.le_refl _⟩
  | true =>
    obtain ⟨_, _, _, h4⟩ := takes_in h
    show e < me ∨ e = me ∧ v ≤ mv
    omega
theorem Cs.other {w0 w w' : World} {g g2 : Nat} {n b e v u n2 b2 e2 v2 u2 : Int} {bs bs2 : List S35} (h : Cs ok w0 w g n b e v u bs) (h2 : Cs ok w0 w g2 n2 b2 e2 v2 u2 bs2) (hne : g2 ≠ g) (hk : KeepBut w w' g none) : Cs ok w0 w' g2 n2 b2 e2 v2 u2 bs2 := by
  obtain ⟨V, h⟩ := h
  obtain ⟨V2, h2⟩ := h2
  exact ⟨V2, keep_blk hk h2.1 hne, h2.2.1, Kd.R_mono (Kd.R_keep (Kd.R_types h2.2.2 h.1 (fun q hq => by simp [k35, Kd.iso, Kd.pair, Kd.string, Kd.int, Kd.scalar] at hq; subst hq; decide)) hk (fun k hk => hk.2)) (fun _ hk => hk.1)⟩
/-- Receive in one form -/
theorem recv_T (g : Nat) (n b e v u : Int) (bs : List S35) (mk mc mb me mv mu : Int) (A : Option Addr) (c : Nat) (mbs : List S35) (w0 w : World) (T : Bool)
    (h : Cs ok w0 w g n b e v u bs) (hB : Below w0.heap.size w0 w) (hC : Kd.C k35 w A mbs.length mbs) (hc : mbs.length ≤ c) (hml : mbs.length ≤ 2000000000000) (hT : takesS n b e v mk mc mb me mv mu mbs = T) (hok : ∀ k, w.heap.size ≤ k → ok k) :
    Calls Tryd.prog 11 #[.pointer (some ⟨g, 0, none⟩), .agg #[.int .i64 mk, .int .i64 mc, .int .i64 mb, .int .i64 me, .int .i64 mv, .int .i64 mu, .slice A mbs.length c]] w fun ee w' =>
      ee = .returned (.bool T) ∧ Cs ok w0 w' g n b (if T then me else e) (if T then mv else v) (if T && !decide (mv = 0) then mu else u) (if T && !decide (mv = 0) then mbs else bs) ∧ Below w0.heap.size w0 w' ∧ KeepBut w w' g none := by
  obtain ⟨V, h⟩ := h
  refine (recv_any g n b e v u V bs mk mc mb me mv mu A c mbs w0 w h hB hC hc hml hok).mono ?_
  rintro ee w' ⟨T', hh, rfl, h1, h2, h3⟩
  rw [hT] at hh
  subst hh
  exact ⟨rfl, h1, h2, h3⟩
theorem wf_i64 {y : Int} (h : (Lit.int .i64 y).wf = true) : I64 y := by
  unfold I64
  simpa [Lit.wf, IntKind.min, IntKind.max, IntKind.signed, IntKind.bits] using h
end Go.Proofs.YtpgifeoigconbaaDoor.Cl
