/- The plain statement of the law FnExactLongest: program and reference name the same track of every list; no condition. -/
import Derived.Test.YtmndffnjejgfoaaI64
import Derived.Test.YtmndffnjejgfoaaTTrack
import Derived.Test.YtmndffnjejgfoaaQx12
import Derived.Test.YtmndffnjejgfoaaQx4
import Derived.Test.YtmndffnjejgfoaaQx8
set_option linter.unusedVariables false
set_option linter.unusedSimpArgs false
namespace Go.Proofs.Ytmndffnjejgfoaa.Pure
open Go.RowKit Go.Proofs.Ytmndffnjejgfoaa.Q Go.Proofs.Ytmndffnjejgfoaa.Gen Go.Proofs.YtmndffnjejgfoaaW.PrintWords Go.Proofs.YtmndffnjejgfoaaW.PrintMore

theorem spec_step (l : List S54) (id most : Int) (j : Nat) (X : Int) (hn : l.length ≤ 1200) (hj : j < l.length) (h : Ev (fun k => if (((rd_T54 l (j : Int)).f2).length : Int) > most then spec_Longest.l0 k l ((rd_T54 l (j : Int)).f0) (((rd_T54 l (j : Int)).f2).length : Int) ((j + 1 : Nat) : Int) else spec_Longest.l0 k l id most ((j + 1 : Nat) : Int)) X) : Ev (fun k => spec_Longest.l0 k l id most (j : Int)) X := by
  refine Ev.step (fun k => spec_Longest.l0.eq_2 _ _ _ _ k) (evPos (by omega) ?_)
  rw [decide_eq_true (by omega)]
  refine Ev.step (fun k => spec_Longest.j1.eq_2 _ _ _ _ _ k) (evPos rfl (evPos (by omega) (evPos (by omega) ?_)))
  rw [up1 (by omega)]
  exact h
theorem impl_step (l : List S54) (a b : Int) (c : List Int) (d e : Int) (j : Nat) (X : Int) (hn : l.length ≤ 1200) (hj : j < l.length) (h : Ev (fun k => if (((rd_T54 l (j : Int)).f2).length : Int) > (c.length : Int) then impl_Longest.l0 k l (l.length : Int) ((j + 1 : Nat) : Int) ((rd_T54 l (j : Int)).f0) ((rd_T54 l (j : Int)).f1) ((rd_T54 l (j : Int)).f2) ((rd_T54 l (j : Int)).f3) ((rd_T54 l (j : Int)).f4) else impl_Longest.l0 k l (l.length : Int) ((j + 1 : Nat) : Int) a b c d e) X) : Ev (fun k => impl_Longest.l0 k l (l.length : Int) (j : Int) a b c d e) X := by
  refine Ev.step (fun k => impl_Longest.l0.eq_2 _ _ _ _ _ _ _ _ k) (evPos (by omega) (evPos (by omega) (evPos (by omega) ?_)))
  rw [up1 (by omega)]
  exact h
theorem both (l : List S54) (hn : l.length ≤ 1200) : ∀ t j (a b : Int) (c : List Int) (d e : Int), j + t = l.length → ∃ r : Int, Ev (fun k => spec_Longest.l0 k l a (c.length : Int) (j : Int)) r ∧ Ev (fun k => impl_Longest.l0 k l (l.length : Int) (j : Int) a b c d e) r := by
  intro t
  induction t with
  | zero =>
    intro j a b c d e hj
    refine ⟨a, Ev.step (fun k => spec_Longest.l0.eq_2 _ _ _ _ k) (evNeg (by omega) ?_), Ev.step (fun k => impl_Longest.l0.eq_2 _ _ _ _ _ _ _ _ k) (evNeg (by omega) (Ev.now _))⟩
    exact Ev.step (fun k => spec_Longest.j1.eq_2 _ _ _ _ _ k) (evNeg (by decide) (Ev.now _))
  | succ t ih =>
    intro j a b c d e hj
    by_cases hc : (((rd_T54 l (j : Int)).f2).length : Int) > (c.length : Int)
    · obtain ⟨r, hs, hi⟩ := ih (j + 1) ((rd_T54 l (j : Int)).f0) ((rd_T54 l (j : Int)).f1) ((rd_T54 l (j : Int)).f2) ((rd_T54 l (j : Int)).f3) ((rd_T54 l (j : Int)).f4) (by omega)
      exact ⟨r, spec_step l _ _ j r hn (by omega) (evPos hc hs), impl_step l _ _ _ _ _ j r hn (by omega) (evPos hc hi)⟩
    · obtain ⟨r, hs, hi⟩ := ih (j + 1) a b c d e (by omega)
      exact ⟨r, spec_step l _ _ j r hn (by omega) (evNeg hc hs), impl_step l _ _ _ _ _ j r hn (by omega) (evNeg hc hi)⟩
theorem longest_both (l : List S54) (hl : l.length ≤ 1048576) : ∃ r : Int, Ev (fun k => spec_Longest.f k l) r ∧ Ev (fun k => impl_Longest.f k l) r := by
  simp only [spec_Longest.f, impl_Longest.f]
  have no : Ev (fun k => impl_Longest.j0 k l true) 0 := Ev.step (fun k => impl_Longest.j0.eq_2 _ _ k) (evPos rfl (Ev.now _))
  by_cases h0 : l.length = 0
  · refine ⟨0, Ev.step (fun k => spec_Longest.l0.eq_2 _ _ _ _ k) (evNeg (by omega) ?_), evPos (by omega) no⟩
    exact Ev.step (fun k => spec_Longest.j1.eq_2 _ _ _ _ _ k) (evNeg (by decide) (Ev.now _))
  by_cases h1 : l.length ≤ 1200
  · obtain ⟨r, hs, hi⟩ := both l h1 (l.length - 1) 1 ((rd_T54 l 0).f0) ((rd_T54 l 0).f1) ((rd_T54 l 0).f2) ((rd_T54 l 0).f3) ((rd_T54 l 0).f4) (by omega)
    refine ⟨r, ?_, evNeg (by omega) ?_⟩
    · exact spec_step l 0 (-1) 0 r h1 (by omega) (evPos (by show (((rd_T54 l ((0 : Nat) : Int)).f2).length : Int) > -1; omega) hs)
    · rw [decide_eq_false (by omega)]
      refine Ev.step (fun k => impl_Longest.j0.eq_2 _ _ k) (evNeg (by decide) (evPos (by omega) ?_))
      exact impl_step l _ _ _ _ _ 0 r h1 (by omega) (evNeg (by show ¬ (((rd_T54 l ((0 : Nat) : Int)).f2).length : Int) > (((rd_T54 l ((0 : Nat) : Int)).f2).length : Int); omega) hi)
  · refine ⟨0, Ev.step (fun k => spec_Longest.l0.eq_2 _ _ _ _ k) (evPos (by omega) ?_), evNeg (by omega) ?_⟩
    · rw [decide_eq_false (by omega)]
      exact Ev.step (fun k => spec_Longest.j1.eq_2 _ _ _ _ _ k) (evNeg (by decide) (Ev.now _))
    · rw [decide_eq_true (by omega)]
      exact no

theorem FnExactLongest : laws_FnExactLongest.Pure := by
  intro l hl ha
  refine Ev.rounds ?_
  simp only [laws_FnExactLongest.f]
  obtain ⟨r, hr, hq⟩ := szTrackS_ev l 1048576 (by omega) (by omega) hl ha
  refine Ev.bind hr ?_
  by_cases h2 : r < 0
  · exact evPos h2 (Ev.now _)
  refine evNeg h2 ?_
  obtain ⟨q1, q2⟩ : l.length ≤ 1048576 ∧ ∀ x ∈ l, ATrack x := by
    rcases hq with hq | hq
    · exact absurd hq h2
    · exact ⟨by have := hq; omega, hq.2.2.2⟩
  have hto := toTrackS_ev l q1 q2
  have hc : (l.map convTrack).length ≤ 1048576 := by rw [List.length_map]; exact q1
  obtain ⟨w, hs, hi⟩ := longest_both (l.map convTrack) hc
  exact Ev.bind hto (Ev.bind hs (Ev.bind hto (Ev.bind hi (evPos rfl (Ev.bind hto (Ev.bind (eqTrackS_ev _ hc (convTrack_ok q2)) (evPos rfl (Ev.now _))))))))
end Go.Proofs.Ytmndffnjejgfoaa.Pure
