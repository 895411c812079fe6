/- The drawing of arguments out of bytes: each of these functions ends, and what it draws lies in its range; no condition. -/
import Derived.Test.YtcdghhihfjojaabDoorGen
import Derived.Test.YtcdghhihfjojaabDoorQx16
import Derived.Test.YtcdghhihfjojaabDoorQx17
import Derived.Test.YtcdghhihfjojaabDoorQx18
set_option linter.unusedVariables false
set_option linter.unusedSimpArgs false
namespace Go.Proofs.YtcdghhihfjojaabDoor.Draw
open Go.RowKit Go.Proofs.YtcdghhihfjojaabDoor.Q Go.Proofs.YtcdghhihfjojaabDoor.Gen Go.Proofs.YtcdghhihfjojaabDoorW.PrintWords Go.Proofs.YtcdghhihfjojaabDoorW.PrintMore

/-- The bytes that are drawn from. -/
structure Src (l : List Int) : Prop where
  len : l.length ≤ 1048576
  byte : ∀ x ∈ l, 0 ≤ x ∧ x ≤ 255
/-- A place in them. -/
def At (l : List Int) (p : Int) : Prop := 0 ≤ p ∧ p ≤ l.length

theorem Src.rd_ {l : List Int} (h : Src l) (i : Int) : 0 ≤ rd l i ∧ rd l i ≤ 255 := by
  unfold rd
  rw [List.getD_eq_getElem?_getD]
  by_cases hi : i.toNat < l.length
  · rw [List.getElem?_eq_getElem hi]; exact h.byte _ (List.getElem_mem hi)
  · rw [List.getElem?_eq_none (by omega)]; decide

theorem wrap64_range (x : Int) : -9223372036854775808 ≤ wrap64 x ∧ wrap64 x ≤ 9223372036854775807 := by unfold wrap64; omega

theorem next_ok {l : List Int} (h : Src l) {p : Int} (hp : At l p) : ∃ v q, spec_l1Rd_next.f l p = some (v, q) ∧ 0 ≤ v ∧ v ≤ 255 ∧ At l q := by
  unfold At at hp
  have hl := h.len
  unfold spec_l1Rd_next.f
  by_cases c : p ≥ (l.length : Int)
  · rw [if_pos c]
    exact ⟨_, _, rfl, by omega, by omega, hp⟩
  · have hr := h.rd_ p
    rw [if_neg c, w64 (x := p + 1) (by omega) (by omega), w64 (x := p + 1 - 1) (by omega) (by omega), show p + 1 - 1 = p by omega, if_pos (by omega), if_pos (by omega), w64 (x := rd l p) (by omega) (by omega)]
    exact ⟨_, _, rfl, by omega, by omega, by unfold At; omega⟩
theorem below_ok {l : List Int} (h : Src l) {p : Int} (hp : At l p) (n : Int) (hn : 1 ≤ n) : ∃ v q, spec_l1Rd_below.f l p n = some (v, q) ∧ 0 ≤ v ∧ v < n ∧ At l q := by
  unfold spec_l1Rd_below.f
  by_cases c : n ≤ 1
  · rw [if_pos c]
    exact ⟨_, _, rfl, by omega, by omega, hp⟩
  · rw [if_neg c]
    obtain ⟨v, q, e, v0, v1, hq⟩ := next_ok h hp
    by_cases d : n ≤ 256
    · rw [if_pos d, e, Option.bind_some, if_neg (by omega)]
      exact ⟨_, _, rfl, Int.tmod_nonneg _ v0, Int.tmod_lt_of_pos _ (by omega), hq⟩
    · obtain ⟨v', q', e', v0', v1', hq'⟩ := next_ok h hq
      rw [if_neg d, e, Option.bind_some, e', Option.bind_some, if_neg (by omega), w64 (x := v * 256) (by omega) (by omega), w64 (by omega) (by omega)]
      exact ⟨_, _, rfl, Int.tmod_nonneg _ (by omega), Int.tmod_lt_of_pos _ (by omega), hq'⟩
theorem once_ok {l : List Int} (h : Src l) {p : Int} (hp : At l p) (n : Int) (hn : 1 ≤ n) : ∃ b q, spec_l1Rd_once.f l p n = some (b, q) ∧ At l q := by
  unfold spec_l1Rd_once.f
  obtain ⟨v, q, e, _, _, hq⟩ := below_ok h hp n hn
  rw [e, Option.bind_some]
  exact ⟨_, _, rfl, hq⟩

end Go.Proofs.YtcdghhihfjojaabDoor.Draw
