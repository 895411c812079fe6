/- What the helpers of the laws answer for lists of Row. -/
import Derived.Test.YteobnbichpadjaaI64
import Derived.Test.YteobnbichpadjaaQx19
import Derived.Test.YteobnbichpadjaaQx20
import Derived.Test.YteobnbichpadjaaQx22
import Derived.Test.YteobnbichpadjaaQx24
import Derived.Test.YteobnbichpadjaaQx25
set_option linter.unusedVariables false
set_option linter.unusedSimpArgs false
namespace Go.Proofs.Yteobnbichpadjaa.Gen
open Go.RowKit Go.Proofs.Yteobnbichpadjaa.Q Go.Proofs.Yteobnbichpadjaa.Gen Go.Proofs.YteobnbichpadjaaW.PrintWords Go.Proofs.YteobnbichpadjaaW.PrintMore

def convRow (x : S100) : S86 := ⟨x.f0, x.f1, x.f2⟩
def ARow (x : S100) : Prop := x.f0.length ≤ 1048576
def BRow (x : S86) : Prop := x.f0.length ≤ 1048576
def WRow (x : S100) : Prop := x.f0.length ≤ 9223372036854775807
theorem rdARow (l : List S100) (i : Nat) : rd_T100 l (i : Int) = l.getD i z100 := by simp [rd_T100]
theorem rdBRow (l : List S86) (i : Nat) : rd_T86 l (i : Int) = l.getD i z86 := by simp [rd_T86]
theorem toRow_ev (x : S100) (h : ARow x) : Ev (fun k => laws_toRow.f k x.f0 x.f1 x.f2) (x.f0, x.f1, x.f2) := by
  unfold ARow at h
  simp only [laws_toRow.f]
  exact Ev.bind (toInt64S_ev _ h) (Ev.now _)
theorem toRowS_ev (l : List S100) (h : l.length ≤ 1048576) (ha : ∀ x ∈ l, ARow x) : Ev (fun k => laws_toRowS.f k l) (l.map convRow) := by
  simp only [laws_toRowS.f]
  refine evPos (by omega) (evPos (by simp; omega) ?_)
  have main : ∀ t j, l.length - j = t → j ≤ l.length → Ev (fun k => laws_toRowS.l0 k l (mixed (l.map convRow) (List.replicate l.length z86) j) (j : Int)) (l.map convRow) := by
    intro t
    induction t with
    | zero =>
      intro j h1 h2
      obtain rfl : j = l.length := by omega
      refine Ev_succ fun k => ?_
      simp only [laws_toRowS.l0]
      have hm := mixed_all (l.map convRow) (List.replicate l.length z86) (by simp)
      rw [List.length_map] at hm
      rw [if_neg (by omega), hm]
    | succ t ih =>
      intro j h1 h2
      have hj : j < l.length := by omega
      have haj : ARow (l.getD j z100) := by
        rw [List.getD_eq_getElem?_getD, List.getElem?_eq_getElem hj]; exact ha _ (List.getElem_mem hj)
      obtain ⟨K, hK⟩ := ih (j + 1) (by omega) (by omega)
      obtain ⟨K2, hK2⟩ := toRow_ev _ haj
      refine ⟨max K K2 + 1, fun k hk => ?_⟩
      obtain ⟨k, rfl⟩ : ∃ q, k = q + 1 := ⟨k - 1, by omega⟩
      have hK := hK k (by omega)
      have hK2 := hK2 k (by omega)
      simp only [laws_toRowS.l0] at hK hK2 ⊢
      rw [if_pos (by omega), if_pos (by omega), rdARow, hK2, Option.bind_some]
      rw [if_pos (by rw [mixed_length _ _ _ (by simp)]; simp; omega), up1 (by omega), Int.toNat_natCast, ← hK]
      have hm := mixed_set (l.map convRow) (List.replicate l.length z86) z86 j (by simp) (by simpa using hj)
      rw [← hm]
      congr 2
      simp [convRow, List.getD_eq_getElem?_getD, hj]
  have := main _ 0 rfl (by omega)
  simpa [mixed_zero] using this
theorem convRow_ok {l : List S100} (ha : ∀ x ∈ l, ARow x) : ∀ x ∈ l.map convRow, BRow x := by
  intro x hx
  obtain ⟨y, hy, rfl⟩ := List.mem_map.mp hx
  exact ha y hy
theorem eqRow_ev (x : S86) (h : BRow x) : Ev (fun k => laws_eqRow.f k x.f0 x.f1 x.f2 x.f0 x.f1 x.f2) true := by
  unfold BRow at h
  simp only [laws_eqRow.f]
  exact Ev.bind (eqInt64S_ev _ (by have := h; omega)) (evPos rfl (evPos (by trivial) (evPos (by trivial) (Ev.now _))))
theorem eqRowS_ev (l : List S86) (h : l.length ≤ 1048576) (ha : ∀ x ∈ l, BRow x) : Ev (fun k => laws_eqRowS.f k l l) true := by
  simp only [laws_eqRowS.f]
  refine evPos trivial ?_
  have main : ∀ t j, l.length - j = t → j ≤ l.length → Ev (fun k => laws_eqRowS.l0 k l l (j : Int)) true := by
    intro t
    induction t with
    | zero =>
      intro j h1 h2
      obtain rfl : j = l.length := by omega
      refine Ev_succ fun k => ?_
      simp only [laws_eqRowS.l0]
      rw [if_neg (by omega)]
    | succ t ih =>
      intro j h1 h2
      have hj : j < l.length := by omega
      have haj : BRow (l.getD j z86) := by
        rw [List.getD_eq_getElem?_getD, List.getElem?_eq_getElem hj]; exact ha _ (List.getElem_mem hj)
      obtain ⟨K, hK⟩ := ih (j + 1) (by omega) (by omega)
      obtain ⟨K2, hK2⟩ := eqRow_ev _ haj
      refine ⟨max K K2 + 1, fun k hk => ?_⟩
      obtain ⟨k, rfl⟩ : ∃ q, k = q + 1 := ⟨k - 1, by omega⟩
      have hK := hK k (by omega)
      have hK2 := hK2 k (by omega)
      simp only [laws_eqRowS.l0, rdBRow] at hK hK2 ⊢
      rw [if_pos (by omega), if_pos (by omega), if_pos (by omega), hK2, Option.bind_some, if_pos rfl, up1 (by omega)]
      exact hK
  exact main _ 0 rfl (by omega)
theorem szRow_eq (x : S100) (n : Int) (h0 : 0 ≤ n) (hn : n ≤ 1048576) (hw : WRow x) : ∃ r, laws_szRow.f x.f0 x.f1 x.f2 n = some r ∧ (r < 0 ∨ (0 ≤ r ∧ r ≤ n ∧ ARow x)) := by
  unfold WRow at hw
  have q : ∀ (l : List Int) (m : Int), 0 ≤ m → m ≤ 1048576 → l.length ≤ 9223372036854775807 → ∃ r, laws_szInt64S.f l m = some r ∧ (r < 0 ∨ (0 ≤ r ∧ r ≤ m ∧ l.length ≤ 1048576)) := by
    intro l m h1 h2 h3
    unfold laws_szInt64S.f
    rw [w64 (x := m - (l.length : Int)) (by omega) (by omega)]
    by_cases h : m - (l.length : Int) < 0
    · rw [if_pos h]; exact ⟨_, rfl, .inl (by omega)⟩
    · rw [if_neg h]; exact ⟨_, rfl, .inr (by omega)⟩
  unfold laws_szRow.f
  obtain ⟨r0, e0, c0⟩ := q x.f0 n (by omega) (by omega) hw
  rw [e0, Option.bind_some]
  rcases c0 with c0 | ⟨c0, d0, g0⟩
  · rw [if_pos c0]; exact ⟨_, rfl, .inl (by omega)⟩
  · rw [if_neg (by omega)]
    exact ⟨_, rfl, .inr ⟨by omega, by omega, g0⟩⟩
/-- What is left of the allowance, or a sign that it did not reach. -/
theorem szRowS_ev (l : List S100) (n : Int) (h0 : 0 ≤ n) (hn : n ≤ 1048576) (hl : l.length ≤ 9223372036854775807) (ha : ∀ x ∈ l, WRow x) :
    ∃ r, Ev (fun k => laws_szRowS.f k l n) r ∧ (r < 0 ∨ (0 ≤ r ∧ r ≤ 1048576 ∧ l.length ≤ 1048576 ∧ ∀ x ∈ l, ARow x)) := by
  simp only [laws_szRowS.f]
  rw [w64 (x := n - (l.length : Int)) (by omega) (by omega)]
  by_cases h : n - (l.length : Int) < 0
  · exact ⟨-1, evPos h (Ev.now _), .inl (by omega)⟩
  · have main : ∀ t j (a : Int), l.length - j = t → j ≤ l.length → 0 ≤ a → a ≤ 1048576 → (∀ i, i < j → ARow (l.getD i z100)) →
        ∃ r, Ev (fun k => laws_szRowS.l0 k l a (j : Int)) r ∧ (r < 0 ∨ (0 ≤ r ∧ r ≤ 1048576 ∧ ∀ i, i < l.length → ARow (l.getD i z100))) := by
      intro t
      induction t with
      | zero =>
        intro j a h1 h2 h3 h4 h5
        obtain rfl : j = l.length := by omega
        refine ⟨a, Ev_succ fun k => ?_, .inr ⟨h3, h4, h5⟩⟩
        simp only [laws_szRowS.l0]
        rw [if_neg (by omega)]
      | succ t ih =>
        intro j a h1 h2 h3 h4 h5
        have hj : j < l.length := by omega
        have haj : WRow (l.getD j z100) := by
          rw [List.getD_eq_getElem?_getD, List.getElem?_eq_getElem hj]; exact ha _ (List.getElem_mem hj)
        obtain ⟨r0, e, c⟩ := szRow_eq (l.getD j z100) a h3 h4 haj
        rcases c with c | ⟨c1, c2, c3⟩
        · refine ⟨-1, Ev_succ fun k => ?_, .inl (by omega)⟩
          simp only [laws_szRowS.l0, rdARow]
          rw [if_pos (by omega), if_pos (by omega), e, Option.bind_some, if_pos (by omega)]
        · obtain ⟨r, hr, hq⟩ := ih (j + 1) r0 (by omega) (by omega) (by omega) (by omega) (fun i hi => by
            by_cases hij : i < j
            · exact h5 i hij
            · obtain rfl : i = j := by omega
              exact c3)
          refine ⟨r, Ev.step (fun k => ?_) hr, hq⟩
          simp only [laws_szRowS.l0, rdARow]
          rw [if_pos (by omega), if_pos (by omega), e, Option.bind_some, if_neg (by omega), up1 (by omega)]
    obtain ⟨r, hr, hq⟩ := main _ 0 (n - l.length) rfl (by omega) (by omega) (by omega) (fun i hi => by omega)
    refine ⟨r, evNeg h hr, ?_⟩
    rcases hq with hq | ⟨q1, q2, q3⟩
    · exact .inl hq
    · refine .inr ⟨q1, q2, by omega, fun x hx => ?_⟩
      obtain ⟨i, hi, rfl⟩ := List.mem_iff_getElem.mp hx
      have := q3 i hi
      rwa [List.getD_eq_getElem?_getD, List.getElem?_eq_getElem hi] at this
end Go.Proofs.Yteobnbichpadjaa.Gen
