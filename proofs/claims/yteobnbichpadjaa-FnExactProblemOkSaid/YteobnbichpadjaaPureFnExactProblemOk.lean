/- The plain statement of the law FnExactProblemOk: program and reference answer alike, for all problems; no condition. -/
import Derived.Test.YteobnbichpadjaaTRow
import Derived.Test.YteobnbichpadjaaInAll
import Derived.Test.YteobnbichpadjaaQx12
import Derived.Test.YteobnbichpadjaaQx14
import Derived.Test.YteobnbichpadjaaQx19
import Derived.Test.YteobnbichpadjaaQx20
import Derived.Test.YteobnbichpadjaaQx21
import Derived.Test.YteobnbichpadjaaQx22
import Derived.Test.YteobnbichpadjaaQx23
import Derived.Test.YteobnbichpadjaaQx26
import Derived.Test.YteobnbichpadjaaQx27
set_option linter.unusedVariables false
set_option linter.unusedSimpArgs false
namespace Go.Proofs.Yteobnbichpadjaa.Pure
open Go.RowKit Go.Proofs.Yteobnbichpadjaa.Q Go.Proofs.Yteobnbichpadjaa.Gen Go.Proofs.YteobnbichpadjaaW.PrintWords Go.Proofs.YteobnbichpadjaaW.PrintMore

def allB (l : List Int) (n lo hi : Int) : Bool := decide ((l.length : Int) = n) && l.all fun x => inS x lo hi
def rowOk (n : Int) (r : S86) : Bool := allB r.f0 n (-5) 5 && (inS r.f1 (-500) 500 && inS r.f2 1 5)
def problemOk (n : Int) (g t : List Int) (l : List S86) : Bool := inS n 1 6 && (allB g n (-500) 500 && (allB t n 1 5 && (!decide ((l.length : Int) > 20) && l.all (rowOk n))))

theorem rows_spec (n : Int) (g t : List Int) (l : List S86) (h : l.length ≤ 1048576) (ha : ∀ x ∈ l, BRow x) : Ev (fun k => spec_ProblemOk.l0 k 0 n g t l) (l.all (rowOk n)) := by
  have := scanE (fun k i => spec_ProblemOk.l0 k i n g t l) l.length (fun j => (l.drop j).all (rowOk n)) ?_ ?_ 0 (by omega)
  · simpa using this
  · intro j hj rest
    simp only [all_drop l _ z86 j hj] at rest ⊢
    have haj : BRow (l.getD j z86) := by
      rw [List.getD_eq_getElem?_getD, List.getElem?_eq_getElem hj]; exact ha _ (List.getElem_mem hj)
    refine Ev.step (f := fun k => (spec_l15All.f k ((l.getD j z86).f0) n (-5) 5).bind fun t416 => (if t416 = true then (if inS (l.getD j z86).f1 (-500) 500 = true then (if inS (l.getD j z86).f2 1 5 = true then (spec_ProblemOk.l0 k ((j + 1 : Nat) : Int) n g t l) else (some false)) else (some false)) else (some false))) (fun k => ?_) ?_
    · simp only [spec_ProblemOk.l0, rdBRow, l2In_s, Option.bind_some]
      rw [if_pos (by omega), if_pos (by omega), up1 (by omega)]
    · refine Ev.bind (all_spec _ n (-5) 5 (by unfold BRow at haj; omega)) ?_
      by_cases c1 : allB (l.getD j z86).f0 n (-5) 5 = true
      · refine evPos c1 ?_
        by_cases c2 : inS (l.getD j z86).f1 (-500) 500 = true
        · refine evPos c2 ?_
          by_cases c3 : inS (l.getD j z86).f2 1 5 = true
          · rw [show rowOk n (l.getD j z86) = true by unfold rowOk; rw [c1, c2, c3]; rfl, Bool.true_and]
            exact evPos c3 rest
          · rw [show rowOk n (l.getD j z86) = false by rw [Bool.not_eq_true] at c3; unfold rowOk; rw [c3]; simp]
            exact evNeg c3 (Ev.now _)
        · rw [show rowOk n (l.getD j z86) = false by rw [Bool.not_eq_true] at c2; unfold rowOk; rw [c2]; simp]
          exact evNeg c2 (Ev.now _)
      · rw [show rowOk n (l.getD j z86) = false by rw [Bool.not_eq_true] at c1; unfold rowOk; rw [c1]; simp]
        exact evNeg c1 (Ev.now _)
  · refine Ev_succ fun k => ?_
    simp only [spec_ProblemOk.l0]
    rw [if_neg (by omega)]
    simp

theorem rows_impl (n : Int) (g t : List Int) (l : List S86) (h : l.length ≤ 1048576) (ha : ∀ x ∈ l, BRow x) : Ev (fun k => impl_ProblemOk.l0 k l (l.length : Int) 0 n g t l) (l.all (rowOk n)) := by
  have := scanE (fun k i => impl_ProblemOk.l0 k l (l.length : Int) i n g t l) l.length (fun j => (l.drop j).all (rowOk n)) ?_ ?_ 0 (by omega)
  · simpa using this
  · intro j hj rest
    simp only [all_drop l _ z86 j hj] at rest ⊢
    have haj : BRow (l.getD j z86) := by
      rw [List.getD_eq_getElem?_getD, List.getElem?_eq_getElem hj]; exact ha _ (List.getElem_mem hj)
    refine Ev.step (f := fun k => (impl_each.f k ((l.getD j z86).f0) n (-5) 5).bind fun t416 => (if t416 = true then (if inS (l.getD j z86).f1 (-500) 500 = true then (if inS (l.getD j z86).f2 1 5 = true then (impl_ProblemOk.l0 k l (l.length : Int) ((j + 1 : Nat) : Int) n g t l) else (some false)) else (some false)) else (some false))) (fun k => ?_) ?_
    · simp only [impl_ProblemOk.l0, rdBRow, in_s, Option.bind_some]
      rw [if_pos (by omega), if_pos (by omega), if_pos (by omega), up1 (by omega)]
    · refine Ev.bind (all_impl _ n (-5) 5 (by unfold BRow at haj; omega)) ?_
      by_cases c1 : allB (l.getD j z86).f0 n (-5) 5 = true
      · refine evPos c1 ?_
        by_cases c2 : inS (l.getD j z86).f1 (-500) 500 = true
        · refine evPos c2 ?_
          by_cases c3 : inS (l.getD j z86).f2 1 5 = true
          · rw [show rowOk n (l.getD j z86) = true by unfold rowOk; rw [c1, c2, c3]; rfl, Bool.true_and]
            exact evPos c3 rest
          · rw [show rowOk n (l.getD j z86) = false by rw [Bool.not_eq_true] at c3; unfold rowOk; rw [c3]; simp]
            exact evNeg c3 (Ev.now _)
        · rw [show rowOk n (l.getD j z86) = false by rw [Bool.not_eq_true] at c2; unfold rowOk; rw [c2]; simp]
          exact evNeg c2 (Ev.now _)
      · rw [show rowOk n (l.getD j z86) = false by rw [Bool.not_eq_true] at c1; unfold rowOk; rw [c1]; simp]
        exact evNeg c1 (Ev.now _)
  · refine Ev_succ fun k => ?_
    simp only [impl_ProblemOk.l0]
    rw [if_neg (by omega)]
    simp

theorem problem_spec (n : Int) (g t : List Int) (l : List S86) (hg : g.length ≤ 1048576) (ht : t.length ≤ 1048576) (h : l.length ≤ 1048576) (ha : ∀ x ∈ l, BRow x) : Ev (fun k => spec_ProblemOk.f k n g t l) (problemOk n g t l) := by
  simp only [spec_ProblemOk.f, l2In_s, Option.bind_some]
  have no : Ev (fun k => spec_ProblemOk.j0 k true n g t l) false := Ev_succ fun k => by simp only [spec_ProblemOk.j0]; rfl
  unfold problemOk
  by_cases h1 : inS n 1 6 = true
  · refine evPos h1 (Ev.bind (all_spec g n (-500) 500 (by omega)) ?_)
    rw [h1, Bool.true_and]
    by_cases h2 : allB g n (-500) 500 = true
    · refine evPos h2 (Ev.bind (all_spec t n 1 5 (by omega)) ?_)
      rw [h2, Bool.true_and]
      by_cases h3 : allB t n 1 5 = true
      · refine evPos h3 ?_
        rw [h3, Bool.true_and]
        by_cases h4 : (l.length : Int) > 20
        · rw [decide_eq_true h4]
          exact no
        · rw [decide_eq_false h4]
          refine Ev.step (fun k => ?_) (rows_spec n g t l h ha)
          simp only [spec_ProblemOk.j0]
          rfl
      · rw [Bool.not_eq_true] at h3
        rw [h3, Bool.false_and]
        exact evNeg (by rw [show (decide ((t.length : Int) = n) && t.all fun x => inS x 1 5) = allB t n 1 5 from rfl, h3]; decide) no
    · rw [Bool.not_eq_true] at h2
      rw [h2, Bool.false_and]
      exact evNeg (by rw [show (decide ((g.length : Int) = n) && g.all fun x => inS x (-500) 500) = allB g n (-500) 500 from rfl, h2]; decide) no
  · rw [Bool.not_eq_true] at h1
    rw [h1, Bool.false_and]
    exact evNeg (by decide) no

theorem problem_impl (n : Int) (g t : List Int) (l : List S86) (hg : g.length ≤ 1048576) (ht : t.length ≤ 1048576) (h : l.length ≤ 1048576) (ha : ∀ x ∈ l, BRow x) : Ev (fun k => impl_ProblemOk.f k n g t l) (problemOk n g t l) := by
  simp only [impl_ProblemOk.f, in_s, Option.bind_some]
  have no : Ev (fun k => impl_ProblemOk.j0 k true n g t l) false := Ev_succ fun k => by simp only [impl_ProblemOk.j0]; rfl
  unfold problemOk
  by_cases h1 : inS n 1 6 = true
  · refine evPos h1 (Ev.bind (all_impl g n (-500) 500 (by omega)) ?_)
    rw [h1, Bool.true_and]
    by_cases h2 : allB g n (-500) 500 = true
    · refine evPos h2 (Ev.bind (all_impl t n 1 5 (by omega)) ?_)
      rw [h2, Bool.true_and]
      by_cases h3 : allB t n 1 5 = true
      · refine evPos h3 ?_
        rw [h3, Bool.true_and]
        by_cases h4 : (l.length : Int) > 20
        · rw [decide_eq_true h4]
          exact no
        · rw [decide_eq_false h4]
          refine Ev.step (fun k => ?_) (rows_impl n g t l h ha)
          simp only [impl_ProblemOk.j0]
          rfl
      · rw [Bool.not_eq_true] at h3
        rw [h3, Bool.false_and]
        exact evNeg (by rw [show (decide ((t.length : Int) = n) && t.all fun x => inS x 1 5) = allB t n 1 5 from rfl, h3]; decide) no
    · rw [Bool.not_eq_true] at h2
      rw [h2, Bool.false_and]
      exact evNeg (by rw [show (decide ((g.length : Int) = n) && g.all fun x => inS x (-500) 500) = allB g n (-500) 500 from rfl, h2]; decide) no
  · rw [Bool.not_eq_true] at h1
    rw [h1, Bool.false_and]
    exact evNeg (by decide) no

theorem szInt_eq (l : List Int) (m : Int) (h1 : 0 ≤ m) (h2 : m ≤ 1048576) (h3 : l.length ≤ 9223372036854775807) : ∃ r, laws_szInt64S.f l m = some r ∧ (r < 0 ∨ (0 ≤ r ∧ r ≤ 1048576 ∧ l.length ≤ 1048576)) := by
  unfold laws_szInt64S.f
  rw [w64 (x := m - (l.length : Int)) (by omega) (by omega)]
  by_cases h : m - (l.length : Int) < 0
  · rw [if_pos h]; exact ⟨_, rfl, .inl (by omega)⟩
  · rw [if_neg h]; exact ⟨_, rfl, .inr (by omega)⟩

theorem FnExactProblemOk : laws_FnExactProblemOk.Pure := by
  intro n g t l hg ht hl ha
  refine Ev.rounds ?_
  simp only [laws_FnExactProblemOk.f]
  have sz : ∃ r, Ev (fun k => laws_szProblem.f k n g t l 1048576) r ∧ (r < 0 ∨ (g.length ≤ 1048576 ∧ t.length ≤ 1048576 ∧ l.length ≤ 1048576 ∧ 0 ≤ r ∧ ∀ x ∈ l, ARow x)) := by
    simp only [laws_szProblem.f]
    obtain ⟨r1, e1, c1⟩ := szInt_eq g 1048576 (by omega) (by omega) hg
    simp only [e1, Option.bind_some]
    rcases c1 with c1 | ⟨c1, c2, c3⟩
    · exact ⟨-1, evPos c1 (Ev.now _), .inl (by omega)⟩
    obtain ⟨r2, e2, d1⟩ := szInt_eq t r1 (by omega) (by omega) ht
    simp only [e2, Option.bind_some]
    rcases d1 with d1 | ⟨d1, d2, d3⟩
    · exact ⟨-1, evNeg (by omega) (evPos d1 (Ev.now _)), .inl (by omega)⟩
    obtain ⟨r3, e3, f1⟩ := szRowS_ev l r2 (by omega) (by omega) hl ha
    rcases f1 with f1 | ⟨f1, f2, f3, f4⟩
    · exact ⟨-1, evNeg (by omega) (evNeg (by omega) (Ev.bind e3 (evPos f1 (Ev.now _)))), .inl (by omega)⟩
    · exact ⟨r3, evNeg (by omega) (evNeg (by omega) (Ev.bind e3 (evNeg (by omega) (Ev.now _)))), .inr ⟨c3, d3, f3, f1, f4⟩⟩
  obtain ⟨r, hr, hq⟩ := sz
  rcases hq with hq | ⟨q1, q2, q3, q0, q4⟩
  · exact Ev.bind hr (evPos hq (Ev.now _))
  · refine Ev.bind hr (evNeg (by omega) ?_)
    have hto : Ev (fun k => laws_toProblem.f k n g t l) (n, g, t, l.map convRow) := by
      simp only [laws_toProblem.f]
      exact Ev.bind (toInt64S_ev g q1) (Ev.bind (toInt64S_ev t q2) (Ev.bind (toRowS_ev l q3 q4) (Ev.now _)))
    have hb := convRow_ok q4
    have hlen : (l.map convRow).length ≤ 1048576 := by simpa using q3
    have heq : Ev (fun k => laws_eqProblem.f k n g t (l.map convRow) n g t (l.map convRow)) true := by
      simp only [laws_eqProblem.f]
      exact evPos (by trivial) (Ev.bind (eqInt64S_ev g (by omega)) (evPos rfl (Ev.bind (eqInt64S_ev t (by omega)) (evPos rfl (Ev.bind (eqRowS_ev _ hlen hb) (evPos rfl (Ev.now _)))))))
    refine Ev.bind hto (Ev.bind (problem_spec n g t _ q1 q2 hlen hb) (Ev.bind hto (Ev.bind (problem_impl n g t _ q1 q2 hlen hb) ?_)))
    exact evNeg (by simp) (Ev.bind hto (Ev.bind heq (evPos rfl (Ev.now _))))

end Go.Proofs.Yteobnbichpadjaa.Pure
