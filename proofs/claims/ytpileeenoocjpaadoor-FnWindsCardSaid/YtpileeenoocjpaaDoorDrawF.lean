/- The drawing of arguments out of bytes: each of these functions ends, and what it draws lies in its range; no condition. -/
import Derived.Test.YtpileeenoocjpaaDoorGen
import Derived.Test.YtpileeenoocjpaaDoorQx4
import Derived.Test.YtpileeenoocjpaaDoorQx5
set_option linter.unusedVariables false
set_option linter.unusedSimpArgs false
namespace Go.Proofs.YtpileeenoocjpaaDoor.Draw
open Go.RowKit Go.Proofs.YtpileeenoocjpaaDoor.Q Go.Proofs.YtpileeenoocjpaaDoor.Gen Go.Proofs.YtpileeenoocjpaaDoorW.PrintWords Go.Proofs.YtpileeenoocjpaaDoorW.PrintMore

/-- The bytes that are drawn from. -/
structure Src (l : List Int) : Prop where
  len : l.length ≤ 1048576
  byte : ∀ x ∈ l, 0 ≤ x ∧ x ≤ 255
/-- A place in them. -/
def At (l : List Int) (p : Int) : Prop := 0 ≤ p ∧ p ≤ l.length

theorem Src.rd_ {l : List Int} (h : Src l) (i : Int) : 0 ≤ rd l i ∧ rd l i ≤ 255 := by
  unfold rd
  rw [List.getD_eq_getElem?_getD]
  by_cases hi : i.toNat < l.length
  · rw [List.getElem?_eq_getElem hi]; exact h.byte _ (List.getElem_mem hi)
  · rw [List.getElem?_eq_none (by omega)]; decide

theorem wrap64_range (x : Int) : -9223372036854775808 ≤ wrap64 x ∧ wrap64 x ≤ 9223372036854775807 := by unfold wrap64; omega

theorem next_ok {l : List Int} (h : Src l) {p : Int} (hp : At l p) : ∃ v q, spec_l1Rd_next.f l p = some (v, q) ∧ 0 ≤ v ∧ v ≤ 255 ∧ At l q := by
  unfold At at hp
  have hl := h.len
  unfold spec_l1Rd_next.f
  by_cases c : p ≥ (l.length : Int)
  · rw [if_pos c]
    exact ⟨_, _, rfl, by omega, by omega, hp⟩
  · have hr := h.rd_ p
    rw [if_neg c, w64 (x := p + 1) (by omega) (by omega), w64 (x := p + 1 - 1) (by omega) (by omega), show p + 1 - 1 = p by omega, if_pos (by omega), if_pos (by omega), w64 (x := rd l p) (by omega) (by omega)]
    exact ⟨_, _, rfl, by omega, by omega, by unfold At; omega⟩
theorem below_ok {l : List Int} (h : Src l) {p : Int} (hp : At l p) (n : Int) (hn : 1 ≤ n) : ∃ v q, spec_l1Rd_below.f l p n = some (v, q) ∧ 0 ≤ v ∧ v < n ∧ At l q := by
  unfold spec_l1Rd_below.f
  by_cases c : n ≤ 1
  · rw [if_pos c]
    exact ⟨_, _, rfl, by omega, by omega, hp⟩
  · rw [if_neg c]
    obtain ⟨v, q, e, v0, v1, hq⟩ := next_ok h hp
    by_cases d : n ≤ 256
    · rw [if_pos d, e, Option.bind_some, if_neg (by omega)]
      exact ⟨_, _, rfl, Int.tmod_nonneg _ v0, Int.tmod_lt_of_pos _ (by omega), hq⟩
    · obtain ⟨v', q', e', v0', v1', hq'⟩ := next_ok h hq
      rw [if_neg d, e, Option.bind_some, e', Option.bind_some, if_neg (by omega), w64 (x := v * 256) (by omega) (by omega), w64 (by omega) (by omega)]
      exact ⟨_, _, rfl, Int.tmod_nonneg _ (by omega), Int.tmod_lt_of_pos _ (by omega), hq'⟩
theorem once_ok {l : List Int} (h : Src l) {p : Int} (hp : At l p) (n : Int) (hn : 1 ≤ n) : ∃ b q, spec_l1Rd_once.f l p n = some (b, q) ∧ At l q := by
  unfold spec_l1Rd_once.f
  obtain ⟨v, q, e, _, _, hq⟩ := below_ok h hp n hn
  rw [e, Option.bind_some]
  exact ⟨_, _, rfl, hq⟩
theorem word_ok {l : List Int} (h : Src l) {p : Int} (hp : At l p) : ∃ v q, Ev (fun k => spec_l1Rd_word.f k l p) (v, q) ∧ At l q := by
  simp only [spec_l1Rd_word.f]
  have main : ∀ (t : Nat) (i x p : Int), 8 - i = t → 0 ≤ i → At l p → ∃ v q, Ev (fun k => spec_l1Rd_word.l0 k x i l p) (v, q) ∧ At l q := by
    intro t
    induction t with
    | zero =>
      intro i x p h1 h2 hp
      refine ⟨x, p, Ev_succ fun k => ?_, hp⟩
      simp only [spec_l1Rd_word.l0]
      rw [if_neg (by omega)]
    | succ t ih =>
      intro i x p h1 h2 hp
      obtain ⟨v, q, e, _, _, hq⟩ := next_ok h hp
      obtain ⟨v', q', e', hq'⟩ := ih (i + 1) (Go.bits .or .u64 (IntKind.u64.wrap (x * 256)) (IntKind.u64.wrap v)) q (by omega) (by omega) hq
      refine ⟨v', q', Ev.step (fun k => ?_) e', hq'⟩
      simp only [spec_l1Rd_word.l0]
      rw [if_pos (by omega), e, Option.bind_some, w64 (by omega) (by omega)]
  exact main 8 0 0 p (by omega) (by omega) hp
theorem number_ok {l : List Int} (h : Src l) {p : Int} (hp : At l p) : ∃ v q, Ev (fun k => spec_l1Rd_number.f k l p) (v, q) ∧ (-9223372036854775808 ≤ v ∧ v ≤ 9223372036854775807) ∧ At l q := by
  simp only [spec_l1Rd_number.f]
  obtain ⟨v, q, e, v0, v1, hq⟩ := below_ok h hp 5 (by omega)
  simp only [e, Option.bind_some]
  by_cases c0 : v = 0
  · obtain ⟨u, q', e', u0, u1, hq'⟩ := below_ok h hq 300 (by omega)
    simp only [e', Option.bind_some]
    exact ⟨_, _, evPos c0 (Ev.now _), wrap64_range _, hq'⟩
  by_cases c1 : v = 1
  · obtain ⟨u, q', e', u0, u1, hq'⟩ := below_ok h hq 12 (by omega)
    simp only [e', Option.bind_some]
    refine ⟨_, _, evNeg c0 (evPos c1 (evPos u0 (evPos (by simpa using u1) (Ev.now _)))), ?_, hq'⟩
    have : u = 0 ∨ u = 1 ∨ u = 2 ∨ u = 3 ∨ u = 4 ∨ u = 5 ∨ u = 6 ∨ u = 7 ∨ u = 8 ∨ u = 9 ∨ u = 10 ∨ u = 11 := by omega
    rcases this with rfl | rfl | rfl | rfl | rfl | rfl | rfl | rfl | rfl | rfl | rfl | rfl <;> decide
  by_cases c2 : v = 2
  · obtain ⟨x, q', e', hq'⟩ := word_ok h hq
    obtain ⟨u, q2, e2, u0, u1, hq2⟩ := below_ok h hq' 60 (by omega)
    refine ⟨wrap64 (shr .u64 x (IntKind.u64.wrap (wrap64 (1 + u)))), q2, evNeg c0 (evNeg c1 (evPos c2 (Ev.bind e' ?_))), ?_, hq2⟩
    · simp only [e2, Option.bind_some]
      exact evPos (by unfold IntKind.wrap; simp [IntKind.signed, IntKind.bits]; omega) (Ev.now _)
    · exact wrap64_range _
  · obtain ⟨u, q', e', u0, u1, hq'⟩ := below_ok h hq 20 (by omega)
    simp only [e', Option.bind_some]
    exact ⟨_, _, evNeg c0 (evNeg c1 (evNeg c2 (Ev.now _))), by omega, hq'⟩

end Go.Proofs.YtpileeenoocjpaaDoor.Draw
