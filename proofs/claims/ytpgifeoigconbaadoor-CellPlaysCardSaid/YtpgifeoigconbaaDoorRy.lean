/- The document's cell: Receive, all ways at once. -/
import Derived.Test.YtpgifeoigconbaaDoorRx
import Derived.Test.YtpgifeoigconbaaDoorRr
namespace Go.Proofs.YtpgifeoigconbaaDoor.Cl
set_option linter.unusedVariables false
set_option linter.unusedSimpArgs false
open Go.RowKit Go.Proofs.YtpgifeoigconbaaDoorW.PrintWords Go.Proofs.YtpgifeoigconbaaDoorW.PrintLast Go.Proofs.YtpgifeoigconbaaDoor.Mo Go.Proofs.YtpgifeoigconbaaDoor.Q
variable {ok : Nat → Prop}
theorem rrecv_any (g : Nat) (n b e v u : Int) (V : Value) (bs : List S35) (mk mc mb me mv mu : Int) (A : Option Addr) (c : Nat) (mbs : List S35) (w0 w : World)
    (h : Ce ok 53 w0 w g n b e v u V bs) (hB : Below w0.heap.size w0 w) (hC : Kd.C k35 w A mbs.length mbs) (hc : mbs.length ≤ c) (hml : mbs.length ≤ 2000000000000) (hok : ∀ k, w.heap.size ≤ k → ok k) (hfar : ∀ ad, A = some ad → 0 < mbs.length → ad.block ≠ g) :
    Calls Tryd.prog 12 #[.pointer (some ⟨g, 0, none⟩), .agg #[.int .i64 mk, .int .i64 mc, .int .i64 mb, .int .i64 me, .int .i64 mv, .int .i64 mu, .slice A mbs.length c]] w fun ee w' =>
      ∃ T, T = takesS n b e v mk mc mb me mv mu mbs ∧ ee = .returned (.bool T) ∧ Does ok 53 w0 w w' g n b (if T then me else e) (if T then mv else v) (if T && !decide (mv = 0) then mu else u) (if T && !decide (mv = 0) then mbs else bs) := by
  have fin : ∀ (T : Bool), T = takesS n b e v mk mc mb me mv mu mbs → ∀ {ee : Ending} {w' : World}, ee = .returned (.bool T) ∧ Does ok 53 w0 w w' g n b (if T then me else e) (if T then mv else v) (if T && !decide (mv = 0) then mu else u) (if T && !decide (mv = 0) then mbs else bs) → ∃ T, T = takesS n b e v mk mc mb me mv mu mbs ∧ ee = .returned (.bool T) ∧ Does ok 53 w0 w w' g n b (if T then me else e) (if T then mv else v) (if T && !decide (mv = 0) then mu else u) (if T && !decide (mv = 0) then mbs else bs) := fun T hT _ _ hh => ⟨T, hT, hh⟩
  cases hr : Rt.rightS mk mc mb me mv mu mbs with
  | false => exact (rrecv_wrong g n b e v u V bs mk mc mb me mv mu A c mbs w0 w h hB hC hc hml hr).mono (fun _ _ hh => fin false (by unfold takesS; rw [hr]; rfl) hh)
  | true =>
    by_cases hk : mk = 1
    · by_cases hn : mc = n
      · by_cases hz : mv = 0
        · by_cases ho : e < me
          · exact (rrecv_greet g n b e v u V bs mk mc mb me mv mu A c mbs w0 w h hB hC hc hml hr hk hn hz ho).mono (fun _ _ hh => fin true (by unfold takesS; rw [hr, decide_eq_true hk, decide_eq_true hn, if_pos hz, decide_eq_true ho]; rfl) (by rw [decide_eq_true hz]; exact hh))
          · exact (rrecv_old g n b e v u V bs mk mc mb me mv mu A c mbs w0 w h hB hC hc hml hr hk hn hz ho).mono (fun _ _ hh => fin false (by unfold takesS; rw [hr, decide_eq_true hk, decide_eq_true hn, if_pos hz, decide_eq_false ho]; rfl) hh)
        · by_cases hb : mb = b
          · by_cases h1 : e < me
            · exact (rrecv_take g n b e v u V bs mk mc mb me mv mu A c mbs w0 w h hB hC hc hml hr hok hfar hk hn hz hb h1).mono (fun _ _ hh => fin true (by unfold takesS aheadS; rw [hr, decide_eq_true hk, decide_eq_true hn, if_neg hz, decide_eq_true hb, decide_eq_true h1]; rfl) (by rw [decide_eq_false hz]; exact hh))
            · by_cases h2 : me = e
              · by_cases h3 : v < mv
                · exact (rrecv_take2 g n b e v u V bs mk mc mb me mv mu A c mbs w0 w h hB hC hc hml hr hok hfar hk hn hz hb h2 h3).mono (fun _ _ hh => fin true (by unfold takesS aheadS; rw [hr, decide_eq_true hk, decide_eq_true hn, if_neg hz, decide_eq_true hb, decide_eq_false h1, decide_eq_true h2.symm, decide_eq_true h3]; rfl) (by rw [decide_eq_false hz]; exact hh))
                · exact (rrecv_eq g n b e v u V bs mk mc mb me mv mu A c mbs w0 w h hB hC hc hml hr hk hn hz hb h2 (by omega)).mono (fun _ _ hh => fin false (by unfold takesS aheadS; rw [hr, decide_eq_true hk, decide_eq_true hn, if_neg hz, decide_eq_true hb, decide_eq_false h1, decide_eq_false h3]; simp) hh)
              · exact (rrecv_less g n b e v u V bs mk mc mb me mv mu A c mbs w0 w h hB hC hc hml hr hk hn hz hb (by omega)).mono (fun _ _ hh => fin false (by unfold takesS aheadS; rw [hr, decide_eq_true hk, decide_eq_true hn, if_neg hz, decide_eq_true hb, decide_eq_false h1, decide_eq_false (show ¬ e = me by omega)]; rfl) hh)
          · exact (rrecv_boot g n b e v u V bs mk mc mb me mv mu A c mbs w0 w h hB hC hc hml hr hk hn hz hb).mono (fun _ _ hh => fin false (by unfold takesS; rw [hr, decide_eq_true hk, decide_eq_true hn, if_neg hz, decide_eq_false hb]; rfl) hh)
      · exact (rrecv_cell g n b e v u V bs mk mc mb me mv mu A c mbs w0 w h hB hC hc hml hr hk hn).mono (fun _ _ hh => fin false (by unfold takesS; rw [hr, decide_eq_true hk, decide_eq_false hn]; rfl) hh)
    · exact (rrecv_kind g n b e v u V bs mk mc mb me mv mu A c mbs w0 w h hB hC hc hml hr hk).mono (fun _ _ hh => fin false (by unfold takesS; rw [hr, decide_eq_false hk]; rfl) hh)
end Go.Proofs.YtpgifeoigconbaaDoor.Cl
