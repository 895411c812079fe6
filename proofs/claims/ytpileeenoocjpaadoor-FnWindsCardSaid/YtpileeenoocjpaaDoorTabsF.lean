/- Package variables that the row lists as tables of floats: what a walk reads of them; no condition. -/
import Derived.Test.YtpileeenoocjpaaDoorTabs
import Derived.Test.YtpileeenoocjpaaDoorFltO
set_option linter.unusedVariables false
set_option linter.unusedSimpArgs false
namespace Go.Proofs.YtpileeenoocjpaaDoor.Opens
open Go.RowKit Go.Proofs.YtpileeenoocjpaaDoorW.PrintWords Go.Proofs.YtpileeenoocjpaaDoorW.PrintFlt Go.Deep
theorem tab_flt {P : Program} {w : World} {name : String} {g t e n : Nat} {xs : List Nat} (hg : P.globalNamed name = some g) (hty : (P.globals[g]?).map (·.type) = some t) (ht : P.underlying t = some (.array n e)) (he : P.underlying e = some (.float .f64)) (hce : P.cellsOf e = 1)
    (hm : xs.length ≤ 9223372036854775807) (h : VarRd P w name (.agg (xs.map fun x => .lit (.float .f64 x)))) : Kd.flt.C w (some ⟨g, 0, none⟩) xs.length xs ∧ xs.length = n :=
  tab_C (d := Kd.flt) (lit := fun x => .float .f64 x) rfl (fun fuel cs p x hx => by
    obtain ⟨b, rfl⟩ := trod_flt he hx
    cases fuel with
    | zero => simp [DataW.trod] at hx
    | succ n =>
      unfold DataW.trod at hx
      rw [he] at hx
      simp at hx
      obtain ⟨_, rfl, _⟩ := hx
      exact ⟨b, by rw [un_self]⟩) hg hty ht hce hm h
end Go.Proofs.YtpileeenoocjpaaDoor.Opens
