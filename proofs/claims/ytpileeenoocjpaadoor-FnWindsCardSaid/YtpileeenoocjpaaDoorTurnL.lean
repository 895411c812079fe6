/- Directions on the circle of 36: program and reference tell the same pair of numbers for every whole number; no condition. -/
import Derived.Test.YtpileeenoocjpaaDoorGen
import Derived.Test.YtpileeenoocjpaaDoorFltL
import Derived.Test.YtpileeenoocjpaaDoorQx1
import Derived.Test.YtpileeenoocjpaaDoorQx7
set_option linter.unusedVariables false
set_option linter.unusedSimpArgs false
namespace Go.Proofs.YtpileeenoocjpaaDoor.Gen
open Go.RowKit Go.Proofs.YtpileeenoocjpaaDoor.Q Go.Proofs.YtpileeenoocjpaaDoorW.PrintWords Go.Proofs.YtpileeenoocjpaaDoorW.PrintMore Go.Proofs.YtpileeenoocjpaaDoorW.PrintFlt

def sinT : List Nat := [0, 4595424355236410249, 4599832907078044661, 4602678819172646912, 4603964935624201756, 4605075134482436153, 4605975682916830378, 4606639218218904859, 4607045579204271127, 4607182418800017408]
def m36 (a : Int) : Int := Int.tmod (wrap64 (Int.tmod a 36 + 36)) 36
theorem tmod36 (a : Int) : -36 < Int.tmod a 36 ∧ Int.tmod a 36 < 36 := ⟨Int.lt_tmod_of_pos a (by decide), Int.tmod_lt_of_pos a (by decide)⟩
theorem sine_is (a : Int) : spec_l3Sine.f a = impl_sine.f (m36 a) sinT := rfl
theorem turn_fin : ∀ n : Fin 71, (fun t : Int => Int.tmod (wrap64 (Int.tmod (wrap64 (t + 9)) 36 + 36)) 36 = Int.tmod (wrap64 (Int.tmod (wrap64 (t + 36)) 36 + 9)) 36 ∧ 0 ≤ Int.tmod (wrap64 (t + 36)) 36 ∧ Int.tmod (wrap64 (t + 36)) 36 < 36 ∧ 0 ≤ Int.tmod (wrap64 (Int.tmod (wrap64 (t + 36)) 36 + 9)) 36 ∧ Int.tmod (wrap64 (Int.tmod (wrap64 (t + 36)) 36 + 9)) 36 < 36) ((n : Nat) - 35 : Int) := by decide +kernel
theorem turn_nums (a : Int) : m36 (wrap64 (Int.tmod a 36 + 9)) = Int.tmod (wrap64 (m36 a + 9)) 36 ∧ 0 ≤ m36 a ∧ m36 a < 36 ∧ 0 ≤ Int.tmod (wrap64 (m36 a + 9)) 36 ∧ Int.tmod (wrap64 (m36 a + 9)) 36 < 36 := by
  obtain ⟨h0, h1⟩ := tmod36 a
  unfold m36
  generalize Int.tmod a 36 = t at h0 h1
  obtain ⟨n, hn⟩ := Int.eq_ofNat_of_zero_le (show 0 ≤ t + 35 by omega)
  have h := turn_fin ⟨n, by omega⟩
  have e : (((⟨n, by omega⟩ : Fin 71) : Nat) : Int) - 35 = t := by show (n : Int) - 35 = t; omega
  rw [e] at h
  exact h
theorem sine_some (k : Int) (h0 : 0 ≤ k) (h1 : k < 36) : ∃ s, impl_sine.f k sinT = some s := by
  unfold impl_sine.f
  by_cases c1 : k ≤ 9
  · rw [if_pos c1, if_pos h0, if_pos (by omega)]; exact ⟨_, rfl⟩
  rw [if_neg c1]
  by_cases c2 : k ≤ 18
  · rw [if_pos c2, w64 (by omega) (by omega), if_pos (by omega), if_pos (by omega)]; exact ⟨_, rfl⟩
  rw [if_neg c2]
  by_cases c3 : k ≤ 27
  · rw [if_pos c3, w64 (by omega) (by omega), if_pos (by omega), if_pos (by omega)]; exact ⟨_, rfl⟩
  rw [if_neg c3, w64 (by omega) (by omega), if_pos (by omega), if_pos (by omega)]; exact ⟨_, rfl⟩
theorem turn_both (a : Int) : ∃ c s : Nat, spec_Turn.f a = some (c, s) ∧ impl_Turn.f a sinT = some (c, s) ∧ impl_sine.f (Int.tmod (wrap64 (m36 a + 9)) 36) sinT = some c ∧ impl_sine.f (m36 a) sinT = some s := by
  obtain ⟨e, a0, a1, b0, b1⟩ := turn_nums a
  obtain ⟨s, hs⟩ := sine_some (m36 a) a0 a1
  obtain ⟨c, hc⟩ := sine_some _ b0 b1
  refine ⟨c, s, ?_, ?_, hc, hs⟩
  · unfold spec_Turn.f
    rw [sine_is, sine_is, e, hc, hs]
    rfl
  · unfold impl_Turn.f impl_mod.f
    rw [if_neg (by decide), Option.bind_some]
    show (impl_sine.f (Int.tmod (wrap64 (m36 a + 9)) 36) sinT).bind _ = _
    rw [hc, Option.bind_some]
    show (impl_sine.f (m36 a) sinT).bind _ = _
    rw [hs]
    rfl
end Go.Proofs.YtpileeenoocjpaaDoor.Gen
