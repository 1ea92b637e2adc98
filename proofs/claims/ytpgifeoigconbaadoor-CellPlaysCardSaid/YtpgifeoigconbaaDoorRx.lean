/- A cell: Receive, all ways at once. -/
import Derived.Test.YtpgifeoigconbaaDoorRc
namespace Go.Proofs.YtpgifeoigconbaaDoor.Cl
set_option linter.unusedVariables false
set_option linter.unusedSimpArgs false
open Go.RowKit Go.Proofs.YtpgifeoigconbaaDoorW.PrintWords Go.Proofs.YtpgifeoigconbaaDoorW.PrintLast Go.Proofs.YtpgifeoigconbaaDoor.Mo Go.Proofs.YtpgifeoigconbaaDoor.Q
variable {ok : Nat → Prop}
/-- whether a cell takes a message -/
def takesS (n b e v mk mc mb me mv mu : Int) (mbs : List S35) : Bool := Rt.rightS mk mc mb me mv mu mbs && (decide (mk = 1) && (decide (mc = n) && (if mv = 0 then decide (e < me) else (decide (mb = b) && aheadS e v me mv))))
theorem recv_any (g : Nat) (n b e v u : Int) (V : Value) (bs : List S35) (mk mc mb me mv mu : Int) (A : Option Addr) (c : Nat) (mbs : List S35) (w0 w : World)
    (h : Ce ok 51 w0 w g n b e v u V bs) (hB : Below w0.heap.size w0 w) (hC : Kd.C k35 w A mbs.length mbs) (hc : mbs.length ≤ c) (hml : mbs.length ≤ 2000000000000) (hok : ∀ k, w.heap.size ≤ k → ok k) :
    Calls Tryd.prog 11 #[.pointer (some ⟨g, 0, none⟩), .agg #[.int .i64 mk, .int .i64 mc, .int .i64 mb, .int .i64 me, .int .i64 mv, .int .i64 mu, .slice A mbs.length c]] w fun ee w' =>
      ∃ T, T = takesS n b e v mk mc mb me mv mu mbs ∧ ee = .returned (.bool T) ∧ Does ok 51 w0 w w' g n b (if T then me else e) (if T then mv else v) (if T && !decide (mv = 0) then mu else u) (if T && !decide (mv = 0) then mbs else bs) := by
  have fin : ∀ (T : Bool), T = takesS n b e v mk mc mb me mv mu mbs → ∀ {ee : Ending} {w' : World}, ee = .returned (.bool T) ∧ Does ok 51 w0 w w' g n b (if T then me else e) (if T then mv else v) (if T && !decide (mv = 0) then mu else u) (if T && !decide (mv = 0) then mbs else bs) → ∃ T, T = takesS n b e v mk mc mb me mv mu mbs ∧ ee = .returned (.bool T) ∧ Does ok 51 w0 w w' g n b (if T then me else e) (if T then mv else v) (if T && !decide (mv = 0) then mu else u) (if T && !decide (mv = 0) then mbs else bs) := fun T hT _ _ hh => ⟨T, hT, hh⟩
  cases hr : Rt.rightS mk mc mb me mv mu mbs with
  | false => exact (recv_wrong g n b e v u V bs mk mc mb me mv mu A c mbs w0 w h hB hC hc hml hr).mono (fun _ _ hh => fin false (by unfold takesS; rw [hr]; rfl) hh)
  | true =>
    by_cases hk : mk = 1
    · by_cases hn : mc = n
      · by_cases hz : mv = 0
        · by_cases ho : e < me
          · exact (recv_greet g n b e v u V bs mk mc mb me mv mu A c mbs w0 w h hB hC hc hml hr hk hn hz ho).mono (fun _ _ hh => fin true (by unfold takesS; rw [hr, decide_eq_true hk, decide_eq_true hn, if_pos hz, decide_eq_true ho]; rfl) (by rw [decide_eq_true hz]; exact hh))
          · exact (recv_old g n b e v u V bs mk mc mb me mv mu A c mbs w0 w h hB hC hc hml hr hk hn hz ho).mono (fun _ _ hh => fin false (by unfold takesS; rw [hr, decide_eq_true hk, decide_eq_true hn, if_pos hz, decide_eq_false ho]; rfl) hh)
        · by_cases hb : mb = b
          · cases ha : aheadS e v me mv with
            | true => exact (recv_take g n b e v u V bs mk mc mb me mv mu A c mbs w0 w h hB hC hc hml hr hk hn hok hz hb ha).mono (fun _ _ hh => fin true (by unfold takesS; rw [hr, decide_eq_true hk, decide_eq_true hn, if_neg hz, decide_eq_true hb, ha]; rfl) (by rw [decide_eq_false hz]; exact hh))
            | false => exact (recv_stale g n b e v u V bs mk mc mb me mv mu A c mbs w0 w h hB hC hc hml hr hk hn hz hb ha).mono (fun _ _ hh => fin false (by unfold takesS; rw [hr, decide_eq_true hk, decide_eq_true hn, if_neg hz, decide_eq_true hb, ha]; rfl) hh)
          · exact (recv_boot g n b e v u V bs mk mc mb me mv mu A c mbs w0 w h hB hC hc hml hr hk hn hz hb).mono (fun _ _ hh => fin false (by unfold takesS; rw [hr, decide_eq_true hk, decide_eq_true hn, if_neg hz, decide_eq_false hb]; rfl) hh)
      · exact (recv_cell g n b e v u V bs mk mc mb me mv mu A c mbs w0 w h hB hC hc hml hr hk hn).mono (fun _ _ hh => fin false (by unfold takesS; rw [hr, decide_eq_true hk, decide_eq_false hn]; rfl) hh)
    · exact (recv_kind g n b e v u V bs mk mc mb me mv mu A c mbs w0 w h hB hC hc hml hr hk).mono (fun _ _ hh => fin false (by unfold takesS; rw [hr, decide_eq_false hk]; rfl) hh)
theorem new_any (n b : Int) (w0 w : World) (hB : Below w0.heap.size w0 w) :
    Calls Tryd.prog 9 #[.int .i64 n, .int .i64 b] w fun ee w' => ∃ g : Nat, ee = .returned (.pointer (some ⟨g, 0, none⟩)) ∧ Ce ok 51 w0 w' g n b 0 0 0 (.slice none 0 0) [] ∧ Below w0.heap.size w0 w' ∧ Below w.heap.size w w' ∧ w.heap.size ≤ g := by
  go_enter Tryd.func9, Tryd.ntmps9
  go_wp2_with fail
  go_ret
  exact ⟨w.heap.size, rfl, ⟨by simpa using heap_alloc_new w _, hB.size, Kd.R_nil _ _ _ _ _⟩, below_alloc hB _, below_alloc (Below.refl _ _) _, Nat.le_refl _⟩
theorem rnew_any (n b : Int) (w0 w : World) (hB : Below w0.heap.size w0 w) :
    Calls Tryd.prog 10 #[.int .i64 n, .int .i64 b] w fun ee w' => ∃ g : Nat, ee = .returned (.pointer (some ⟨g, 0, none⟩)) ∧ Ce ok 53 w0 w' g n b 0 0 0 (.slice none 0 0) [] ∧ Below w0.heap.size w0 w' ∧ Below w.heap.size w w' ∧ w.heap.size ≤ g := by
  go_enter Tryd.func10, Tryd.ntmps10
  go_wp2_with fail
  go_ret
  exact ⟨w.heap.size, rfl, ⟨by simpa using heap_alloc_new w _, hB.size, Kd.R_nil _ _ _ _ _⟩, below_alloc hB _, below_alloc (Below.refl _ _) _, Nat.le_refl _⟩
end Go.Proofs.YtpgifeoigconbaaDoor.Cl
