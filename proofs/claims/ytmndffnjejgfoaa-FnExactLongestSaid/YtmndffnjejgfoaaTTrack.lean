/- What the helpers of the laws answer for lists of Track. -/
import Derived.Test.YtmndffnjejgfoaaI64
import Derived.Test.YtmndffnjejgfoaaQx1
import Derived.Test.YtmndffnjejgfoaaQx10
import Derived.Test.YtmndffnjejgfoaaQx11
import Derived.Test.YtmndffnjejgfoaaQx2
import Derived.Test.YtmndffnjejgfoaaQx3
import Derived.Test.YtmndffnjejgfoaaQx5
import Derived.Test.YtmndffnjejgfoaaQx6
import Derived.Test.YtmndffnjejgfoaaQx7
import Derived.Test.YtmndffnjejgfoaaQx9
set_option linter.unusedVariables false
set_option linter.unusedSimpArgs false
namespace Go.Proofs.Ytmndffnjejgfoaa.Gen
open Go.RowKit Go.Proofs.Ytmndffnjejgfoaa.Q Go.Proofs.Ytmndffnjejgfoaa.Gen Go.Proofs.YtmndffnjejgfoaaW.PrintWords Go.Proofs.YtmndffnjejgfoaaW.PrintMore

def convTrack (x : S53) : S54 := ⟨x.f0, x.f1, x.f2, x.f3, x.f4⟩
def ATrack (x : S53) : Prop := x.f2.length ≤ 1048576
def BTrack (x : S54) : Prop := x.f2.length ≤ 1048576
def WTrack (x : S53) : Prop := x.f2.length ≤ 9223372036854775807
theorem rdATrack (l : List S53) (i : Nat) : rd_T53 l (i : Int) = l.getD i z53 := by simp [rd_T53]
theorem rdBTrack (l : List S54) (i : Nat) : rd_T54 l (i : Int) = l.getD i z54 := by simp [rd_T54]
theorem toTrack_ev (x : S53) (h : ATrack x) : Ev (fun k => laws_toTrack.f k x.f0 x.f1 x.f2 x.f3 x.f4) (x.f0, x.f1, x.f2, x.f3, x.f4) := by
  unfold ATrack at h
  simp only [laws_toTrack.f]
  exact Ev.bind (toInt64S_ev _ h) (Ev.now _)
theorem toTrackS_ev (l : List S53) (h : l.length ≤ 1048576) (ha : ∀ x ∈ l, ATrack x) : Ev (fun k => laws_toTrackS.f k l) (l.map convTrack) := by
  simp only [laws_toTrackS.f]
  refine evPos (by omega) (evPos (by simp; omega) ?_)
  have main : ∀ t j, l.length - j = t → j ≤ l.length → Ev (fun k => laws_toTrackS.l0 k l (mixed (l.map convTrack) (List.replicate l.length z54) j) (j : Int)) (l.map convTrack) := by
    intro t
    induction t with
    | zero =>
      intro j h1 h2
      obtain rfl : j = l.length := by omega
      refine Ev_succ fun k => ?_
      simp only [laws_toTrackS.l0]
      have hm := mixed_all (l.map convTrack) (List.replicate l.length z54) (by simp)
      rw [List.length_map] at hm
      rw [if_neg (by omega), hm]
    | succ t ih =>
      intro j h1 h2
      have hj : j < l.length := by omega
      have haj : ATrack (l.getD j z53) := by
        rw [List.getD_eq_getElem?_getD, List.getElem?_eq_getElem hj]; exact ha _ (List.getElem_mem hj)
      obtain ⟨K, hK⟩ := ih (j + 1) (by omega) (by omega)
      obtain ⟨K2, hK2⟩ := toTrack_ev _ haj
      refine ⟨max K K2 + 1, fun k hk => ?_⟩
      obtain ⟨k, rfl⟩ : ∃ q, k = q + 1 := ⟨k - 1, by omega⟩
      have hK := hK k (by omega)
      have hK2 := hK2 k (by omega)
      simp only [laws_toTrackS.l0] at hK hK2 ⊢
      rw [if_pos (by omega), if_pos (by omega), rdATrack, hK2, Option.bind_some]
      rw [if_pos (by rw [mixed_length _ _ _ (by simp)]; simp; omega), up1 (by omega), Int.toNat_natCast, ← hK]
      have hm := mixed_set (l.map convTrack) (List.replicate l.length z54) z54 j (by simp) (by simpa using hj)
      rw [← hm]
      congr 2
      simp [convTrack, List.getD_eq_getElem?_getD, hj]
  have := main _ 0 rfl (by omega)
  simpa [mixed_zero] using this
theorem convTrack_ok {l : List S53} (ha : ∀ x ∈ l, ATrack x) : ∀ x ∈ l.map convTrack, BTrack x := by
  intro x hx
  obtain ⟨y, hy, rfl⟩ := List.mem_map.mp hx
  exact ha y hy
theorem eqTrack_ev (x : S54) (h : BTrack x) : Ev (fun k => laws_eqTrack.f k x.f0 x.f1 x.f2 x.f3 x.f4 x.f0 x.f1 x.f2 x.f3 x.f4) true := by
  unfold BTrack at h
  simp only [laws_eqTrack.f]
  exact evPos (by trivial) (evPos (by trivial) (Ev.bind (eqInt64S_ev _ (by have := h; omega)) (evPos rfl (evPos (by trivial) (evPos (by trivial) (Ev.now _))))))
theorem eqTrackS_ev (l : List S54) (h : l.length ≤ 1048576) (ha : ∀ x ∈ l, BTrack x) : Ev (fun k => laws_eqTrackS.f k l l) true := by
  simp only [laws_eqTrackS.f]
  refine evPos trivial ?_
  have main : ∀ t j, l.length - j = t → j ≤ l.length → Ev (fun k => laws_eqTrackS.l0 k l l (j : Int)) true := by
    intro t
    induction t with
    | zero =>
      intro j h1 h2
      obtain rfl : j = l.length := by omega
      refine Ev_succ fun k => ?_
      simp only [laws_eqTrackS.l0]
      rw [if_neg (by omega)]
    | succ t ih =>
      intro j h1 h2
      have hj : j < l.length := by omega
      have haj : BTrack (l.getD j z54) := by
        rw [List.getD_eq_getElem?_getD, List.getElem?_eq_getElem hj]; exact ha _ (List.getElem_mem hj)
      obtain ⟨K, hK⟩ := ih (j + 1) (by omega) (by omega)
      obtain ⟨K2, hK2⟩ := eqTrack_ev _ haj
      refine ⟨max K K2 + 1, fun k hk => ?_⟩
      obtain ⟨k, rfl⟩ : ∃ q, k = q + 1 := ⟨k - 1, by omega⟩
      have hK := hK k (by omega)
      have hK2 := hK2 k (by omega)
      simp only [laws_eqTrackS.l0, rdBTrack] at hK hK2 ⊢
      rw [if_pos (by omega), if_pos (by omega), if_pos (by omega), hK2, Option.bind_some, if_pos rfl, up1 (by omega)]
      exact hK
  exact main _ 0 rfl (by omega)
theorem szTrack_eq (x : S53) (n : Int) (h0 : 0 ≤ n) (hn : n ≤ 1048576) (hw : WTrack x) : ∃ r, laws_szTrack.f x.f0 x.f1 x.f2 x.f3 x.f4 n = some r ∧ (r < 0 ∨ (0 ≤ r ∧ r ≤ n ∧ ATrack x)) := by
  unfold WTrack at hw
  have q : ∀ (l : List Int) (m : Int), 0 ≤ m → m ≤ 1048576 → l.length ≤ 9223372036854775807 → ∃ r, laws_szInt64S.f l m = some r ∧ (r < 0 ∨ (0 ≤ r ∧ r ≤ m ∧ l.length ≤ 1048576)) := by
    intro l m h1 h2 h3
    unfold laws_szInt64S.f
    rw [w64 (x := m - (l.length : Int)) (by omega) (by omega)]
    by_cases h : m - (l.length : Int) < 0
    · rw [if_pos h]; exact ⟨_, rfl, .inl (by omega)⟩
    · rw [if_neg h]; exact ⟨_, rfl, .inr (by omega)⟩
  unfold laws_szTrack.f
  obtain ⟨r0, e0, c0⟩ := q x.f2 n (by omega) (by omega) hw
  rw [e0, Option.bind_some]
  rcases c0 with c0 | ⟨c0, d0, g0⟩
  · rw [if_pos c0]; exact ⟨_, rfl, .inl (by omega)⟩
  · rw [if_neg (by omega)]
    exact ⟨_, rfl, .inr ⟨by omega, by omega, g0⟩⟩
/-- What is left of the allowance, or a sign that it did not reach. -/
theorem szTrackS_ev (l : List S53) (n : Int) (h0 : 0 ≤ n) (hn : n ≤ 1048576) (hl : l.length ≤ 9223372036854775807) (ha : ∀ x ∈ l, WTrack x) :
    ∃ r, Ev (fun k => laws_szTrackS.f k l n) r ∧ (r < 0 ∨ (0 ≤ r ∧ r ≤ 1048576 ∧ l.length ≤ 1048576 ∧ ∀ x ∈ l, ATrack x)) := by
  simp only [laws_szTrackS.f]
  rw [w64 (x := n - (l.length : Int)) (by omega) (by omega)]
  by_cases h : n - (l.length : Int) < 0
  · exact ⟨-1, evPos h (Ev.now _), .inl (by omega)⟩
  · have main : ∀ t j (a : Int), l.length - j = t → j ≤ l.length → 0 ≤ a → a ≤ 1048576 → (∀ i, i < j → ATrack (l.getD i z53)) →
        ∃ r, Ev (fun k => laws_szTrackS.l0 k l a (j : Int)) r ∧ (r < 0 ∨ (0 ≤ r ∧ r ≤ 1048576 ∧ ∀ i, i < l.length → ATrack (l.getD i z53))) := by
      intro t
      induction t with
      | zero =>
        intro j a h1 h2 h3 h4 h5
        obtain rfl : j = l.length := by omega
        refine ⟨a, Ev_succ fun k => ?_, .inr ⟨h3, h4, h5⟩⟩
        simp only [laws_szTrackS.l0]
        rw [if_neg (by omega)]
      | succ t ih =>
        intro j a h1 h2 h3 h4 h5
        have hj : j < l.length := by omega
        have haj : WTrack (l.getD j z53) := by
          rw [List.getD_eq_getElem?_getD, List.getElem?_eq_getElem hj]; exact ha _ (List.getElem_mem hj)
        obtain ⟨r0, e, c⟩ := szTrack_eq (l.getD j z53) a h3 h4 haj
        rcases c with c | ⟨c1, c2, c3⟩
        · refine ⟨-1, Ev_succ fun k => ?_, .inl (by omega)⟩
          simp only [laws_szTrackS.l0, rdATrack]
          rw [if_pos (by omega), if_pos (by omega), e, Option.bind_some, if_pos (by omega)]
        · obtain ⟨r, hr, hq⟩ := ih (j + 1) r0 (by omega) (by omega) (by omega) (by omega) (fun i hi => by
            by_cases hij : i < j
            · exact h5 i hij
            · obtain rfl : i = j := by omega
              exact c3)
          refine ⟨r, Ev.step (fun k => ?_) hr, hq⟩
          simp only [laws_szTrackS.l0, rdATrack]
          rw [if_pos (by omega), if_pos (by omega), e, Option.bind_some, if_neg (by omega), up1 (by omega)]
    obtain ⟨r, hr, hq⟩ := main _ 0 (n - l.length) rfl (by omega) (by omega) (by omega) (fun i hi => by omega)
    refine ⟨r, evNeg h hr, ?_⟩
    rcases hq with hq | ⟨q1, q2, q3⟩
    · exact .inl hq
    · refine .inr ⟨q1, q2, by omega, fun x hx => ?_⟩
      obtain ⟨i, hi, rfl⟩ := List.mem_iff_getElem.mp hx
      have := q3 i hi
      rwa [List.getD_eq_getElem?_getD, List.getElem?_eq_getElem hi] at this
end Go.Proofs.Ytmndffnjejgfoaa.Gen
