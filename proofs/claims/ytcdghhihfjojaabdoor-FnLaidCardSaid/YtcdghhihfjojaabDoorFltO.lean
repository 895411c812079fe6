/- Floats among the arguments, opened; no condition. -/
import Derived.Test.YtcdghhihfjojaabDoorFlt
import Derived.Test.YtcdghhihfjojaabDoorOpen
set_option linter.unusedVariables false
set_option linter.unusedSimpArgs false
namespace Go.Proofs.YtcdghhihfjojaabDoor.Opens
open Go.RowKit Go.Proofs.YtcdghhihfjojaabDoorW.PrintWords Go.Proofs.YtcdghhihfjojaabDoorW.PrintFlt Go.Deep
section
variable {H : Type} {enc : TypeId × Value → H} {P : Program} {w : World} {base : Nat} {spare : Nat → Bool} {held : Bool} {t : TypeId}
theorem trod_flt {fuel : Nat} {cs : List Value} {x : DataW H × List MemPlace} {k : FloatKind} (ht : P.underlying t = some (.float k)) (h : DataW.trod enc P w base spare held fuel t cs = some x) : ∃ b, cs = [.float k b] := by
  cases fuel with
  | zero => simp [DataW.trod] at h
  | succ n =>
    unfold DataW.trod at h
    rw [ht] at h
    split at h <;> simp_all
theorem opn_float (ht : P.underlying t = some (.float .f64)) : Opn enc P w base spare held t Kd.flt := fun fuel cs x h => by
  obtain ⟨b, rfl⟩ := trod_flt ht h
  exact ⟨cn b, b, by rw [un_cn]⟩
end
/-- A float that came in within a struct has 64 bits. -/
theorem flt_bits {P : Program} {w : World} {r : Reach} {base : Nat} {t : TypeId} {fs : Array Field} {cs : Array Value} (ht : P.underlying t = some (.struct fs)) (h : Value.okWide P w r base t (.agg cs)) (i p x : Nat) (hi : cs[i]? = some (.float .f64 (un p x))) : x < 18446744073709551616 := by
  simp only [Value.okWide, ht] at h
  obtain ⟨cs', h1, _, ts, _, _, h5⟩ := h
  injection h1 with h1
  subst h1
  obtain ⟨u, _, hc⟩ := h5 i _ hi
  have hb : un p x < 18446744073709551616 := by
    unfold Cell.okWide at hc
    split at hc
    · rename_i e; cases e
    · rename_i e; cases e
    · rename_i e; cases e
    · rename_i e; cases e
    · rename_i e; cases e
    · rename_i e; cases e
    · rename_i e; cases e
    · unfold Cell.ok at hc
      split at hc
      all_goals first | exact hc.elim | (rename_i e; cases e; done) | skip
      rename_i e
      cases e
      obtain ⟨rfl, hc⟩ := hc
      exact hc
  unfold un at hb
  by_cases c : x = qnan
  · rw [c]; decide
  · rw [if_neg c] at hb; exact hb
end Go.Proofs.YtcdghhihfjojaabDoor.Opens
