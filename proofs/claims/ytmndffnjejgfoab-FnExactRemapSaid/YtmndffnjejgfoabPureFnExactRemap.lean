/- The plain statement of the law FnExactRemap: program and reference refuse the same edges and amounts, and hand back the same amounts; no condition. -/
import Derived.Test.YtmndffnjejgfoabI64
import Derived.Test.YtmndffnjejgfoabInAll
import Derived.Test.YtmndffnjejgfoabQx13
import Derived.Test.YtmndffnjejgfoabQx2
import Derived.Test.YtmndffnjejgfoabQx3
import Derived.Test.YtmndffnjejgfoabQx4
import Derived.Test.YtmndffnjejgfoabQx7
import Derived.Test.YtmndffnjejgfoabQx8
import Derived.Test.YtmndffnjejgfoabQx9
set_option linter.unusedVariables false
set_option linter.unusedSimpArgs false
namespace Go.Proofs.Ytmndffnjejgfoab.Pure
open Go.RowKit Go.Proofs.Ytmndffnjejgfoab.Q Go.Proofs.Ytmndffnjejgfoab.Gen Go.Proofs.YtmndffnjejgfoabW.PrintWords Go.Proofs.YtmndffnjejgfoabW.PrintMore

/-- Edges within their bounds. -/
def Fair (e : List Int) : Prop := 2 ≤ e.length ∧ e.length ≤ 257 ∧ ∀ i, i < e.length → -1000000 ≤ e.getD i 0 ∧ e.getD i 0 ≤ 1000000

theorem down1 {j : Nat} (h0 : 0 < j) (h : j < 4611686018427387904) : wrap64 ((j : Int) - 1) = ((j - 1 : Nat) : Int) := by unfold wrap64; omega

theorem edges_loop (e : List Int) (hn : e.length ≤ 257) : ∀ t j, j + t = e.length → ∃ b : Bool, Ev (fun k => spec_l11EdgesOk.l0 k e (j : Int)) b ∧ Ev (fun k => impl_edgesOk.l0 k e e (e.length : Int) (j : Int)) b ∧ (b = true → ∀ i, j ≤ i → i < e.length → -1000000 ≤ e.getD i 0 ∧ e.getD i 0 ≤ 1000000) := by
  intro t
  induction t with
  | zero =>
    intro j hj
    refine ⟨true, Ev.step (fun k => spec_l11EdgesOk.l0.eq_2 _ _ k) (evNeg (by omega) (Ev.now _)), Ev.step (fun k => impl_edgesOk.l0.eq_2 _ _ _ _ k) (evNeg (by omega) (Ev.now _)), fun _ i h1 h2 => by omega⟩
  | succ t ih =>
    intro j hj
    obtain ⟨b, hs, hi, hb⟩ := ih (j + 1) (by omega)
    by_cases c : inS (e.getD j 0) (-1000000) 1000000 = true
    rotate_left
    · rw [Bool.not_eq_true] at c
      refine ⟨false, Ev.step (fun k => spec_l11EdgesOk.l0.eq_2 _ _ k) (evPos (by omega) (evPos (by omega) ?_)), Ev.step (fun k => impl_edgesOk.l0.eq_2 _ _ _ _ k) (evPos (by omega) (evPos (by omega) (evPos (by omega) ?_))), fun h => by cases h⟩
      · simp only [rd_nat, l2In_s, c, Option.bind_some]
        exact evNeg (by decide) (Ev.now _)
      · simp only [rd_nat, in_s, c, Option.bind_some]
        exact evNeg (by decide) (Ev.now _)
    · have c' := (inS_iff _ _ _).1 c
      have good : b = true → ∀ i, j ≤ i → i < e.length → -1000000 ≤ e.getD i 0 ∧ e.getD i 0 ≤ 1000000 := fun h i h1 h2 => by
        by_cases hij : i = j
        · rw [hij]; exact c'
        · exact hb h i (by omega) h2
      by_cases hj0 : j = 0
      · refine ⟨b, Ev.step (fun k => spec_l11EdgesOk.l0.eq_2 _ _ k) (evPos (by omega) (evPos (by omega) ?_)), Ev.step (fun k => impl_edgesOk.l0.eq_2 _ _ _ _ k) (evPos (by omega) (evPos (by omega) (evPos (by omega) ?_))), good⟩
        · simp only [rd_nat, l2In_s, c, Option.bind_some]
          refine evPos trivial (evNeg (by omega) ?_)
          rw [up1 (by omega)]
          exact hs
        · simp only [rd_nat, in_s, c, Option.bind_some]
          refine evPos trivial (evNeg (by omega) ?_)
          rw [up1 (by omega)]
          exact hi
      · by_cases hr : e.getD j 0 ≤ e.getD (j - 1) 0
        · refine ⟨false, Ev.step (fun k => spec_l11EdgesOk.l0.eq_2 _ _ k) (evPos (by omega) (evPos (by omega) ?_)), Ev.step (fun k => impl_edgesOk.l0.eq_2 _ _ _ _ k) (evPos (by omega) (evPos (by omega) (evPos (by omega) ?_))), fun h => by cases h⟩
          · simp only [l2In_s, rd_nat, c, Option.bind_some]
            refine evPos trivial (evPos (by omega) ?_)
            rw [down1 (by omega) (by omega), rd_nat]
            exact evPos (by omega) (evPos (by omega) (evPos hr (Ev.now _)))
          · simp only [in_s, rd_nat, c, Option.bind_some]
            refine evPos trivial (evPos (by omega) ?_)
            rw [down1 (by omega) (by omega), rd_nat]
            exact evPos (by omega) (evPos (by omega) (evPos hr (Ev.now _)))
        · refine ⟨b, Ev.step (fun k => spec_l11EdgesOk.l0.eq_2 _ _ k) (evPos (by omega) (evPos (by omega) ?_)), Ev.step (fun k => impl_edgesOk.l0.eq_2 _ _ _ _ k) (evPos (by omega) (evPos (by omega) (evPos (by omega) ?_))), good⟩
          · simp only [l2In_s, rd_nat, c, Option.bind_some]
            refine evPos trivial (evPos (by omega) ?_)
            rw [down1 (by omega) (by omega), rd_nat, up1 (by omega)]
            exact evPos (by omega) (evPos (by omega) (evNeg hr hs))
          · simp only [in_s, rd_nat, c, Option.bind_some]
            refine evPos trivial (evPos (by omega) ?_)
            rw [down1 (by omega) (by omega), rd_nat, up1 (by omega)]
            exact evPos (by omega) (evPos (by omega) (evNeg hr hi))
theorem edges_both (e : List Int) (h : e.length ≤ 1048576) : ∃ b : Bool, Ev (fun k => spec_l11EdgesOk.f k e) b ∧ Ev (fun k => impl_edgesOk.f k e) b ∧ (b = true → Fair e) := by
  simp only [spec_l11EdgesOk.f, impl_edgesOk.f, in_s, Option.bind_some]
  have no : Ev (fun k => spec_l11EdgesOk.j0 k e true) false := Ev.step (fun k => spec_l11EdgesOk.j0.eq_2 _ _ k) (evPos rfl (Ev.now _))
  by_cases h2 : e.length < 2
  · exact ⟨false, evPos (by omega) no, evNeg (fun hh => by rw [inS_iff] at hh; omega) (Ev.now _), fun hh => by cases hh⟩
  · by_cases h3 : e.length ≤ 257
    · obtain ⟨b, hs, hi, hb⟩ := edges_loop e h3 e.length 0 (by omega)
      refine ⟨b, evNeg (by omega) ?_, evPos ((inS_iff _ _ _).2 (by omega)) hi, fun hh => ⟨by omega, h3, fun i hi2 => hb hh i (Nat.zero_le _) hi2⟩⟩
      rw [decide_eq_false (by omega)]
      exact Ev.step (fun k => spec_l11EdgesOk.j0.eq_2 _ _ k) (evNeg (by decide) hs)
    · refine ⟨false, evNeg (by omega) ?_, evNeg (fun hh => by rw [inS_iff] at hh; omega) (Ev.now _), fun hh => by cases hh⟩
      rw [decide_eq_true (by omega)]
      exact no

theorem below_both (e a : List Int) (x : Int) (he : Fair e) (hl : a.length + 1 = e.length) : ∀ t j s, j + t = a.length → ∃ r : Int, Ev (fun k => spec_l11Below.l0 k e a x s (j : Int)) r ∧ Ev (fun k => impl_Remap_1.l0 k x [e] s a (a.length : Int) (j : Int)) r := by
  obtain ⟨e2, e3, eb⟩ := he
  have r0 : rd_L1 [e] 0 = e := rfl
  intro t
  induction t with
  | zero =>
    intro j s hj
    exact ⟨s, Ev.step (fun k => spec_l11Below.l0.eq_2 _ _ _ _ _ k) (evNeg (by omega) (Ev.now _)), Ev.step (fun k => impl_Remap_1.l0.eq_2 _ _ _ _ _ _ k) (evNeg (by omega) (Ev.now _))⟩
  | succ t ih =>
    intro j s hj
    have b0 := eb j (by omega)
    have b1 := eb (j + 1) (by omega)
    have S0 : ∀ r, Ev (fun k => if e.getD (j + 1) 0 ≤ x then spec_l11Below.l0 k e a x (wrap64 (s + a.getD j 0)) ((j + 1 : Nat) : Int) else if e.getD j 0 < x then (if (wrap64 (e.getD (j + 1) 0 - e.getD j 0)) = 0 then none else spec_l11Below.l0 k e a x (wrap64 (s + (wrap64 (Int.tdiv (wrap64 (a.getD j 0 * (wrap64 (x - e.getD j 0)))) (wrap64 (e.getD (j + 1) 0 - e.getD j 0)))))) ((j + 1 : Nat) : Int)) else spec_l11Below.l0 k e a x s ((j + 1 : Nat) : Int)) r → Ev (fun k => spec_l11Below.l0 k e a x s (j : Int)) r := by
      intro r h
      refine Ev.step (fun k => spec_l11Below.l0.eq_2 _ _ _ _ _ k) (evPos (by omega) ?_)
      rw [up1 (by omega), rd_nat, rd_nat, rd_nat]
      refine evPos (by omega) (evPos (by omega) ?_)
      by_cases c : e.getD (j + 1) 0 ≤ x
      · simp only [if_pos c] at h
        exact evPos c (evPos (by omega) h)
      · simp only [if_neg c] at h
        exact evNeg c (evPos (by omega) (evPos (by omega) h))
    have I0 : ∀ r, Ev (fun k => if e.getD (j + 1) 0 ≤ x then impl_Remap_1.l0 k x [e] (wrap64 (s + a.getD j 0)) a (a.length : Int) ((j + 1 : Nat) : Int) else if e.getD j 0 < x then (if (wrap64 (e.getD (j + 1) 0 - e.getD j 0)) = 0 then none else impl_Remap_1.l0 k x [e] (wrap64 (s + (wrap64 (Int.tdiv (wrap64 (a.getD j 0 * (wrap64 (x - e.getD j 0)))) (wrap64 (e.getD (j + 1) 0 - e.getD j 0)))))) a (a.length : Int) ((j + 1 : Nat) : Int)) else impl_Remap_1.l0 k x [e] s a (a.length : Int) ((j + 1 : Nat) : Int)) r → Ev (fun k => impl_Remap_1.l0 k x [e] s a (a.length : Int) (j : Int)) r := by
      intro r h
      refine Ev.step (fun k => impl_Remap_1.l0.eq_2 _ _ _ _ _ _ k) (evPos (by omega) (evPos (by omega) (evPos (by omega) (evPos (by simp) ?_))))
      rw [r0, up1 (by omega), rd_nat, rd_nat, rd_nat]
      exact evPos (by omega) (evPos (by omega) (evPos (by omega) h))
    by_cases c1 : e.getD (j + 1) 0 ≤ x
    · obtain ⟨r, hs, hi⟩ := ih (j + 1) (wrap64 (s + a.getD j 0)) (by omega)
      exact ⟨r, S0 r (evPos c1 hs), I0 r (evPos c1 hi)⟩
    · by_cases c2 : e.getD j 0 < x
      · have hne : ¬ wrap64 (e.getD (j + 1) 0 - e.getD j 0) = 0 := by rw [w64 (by omega) (by omega)]; omega
        obtain ⟨r, hs, hi⟩ := ih (j + 1) (wrap64 (s + (wrap64 (Int.tdiv (wrap64 (a.getD j 0 * (wrap64 (x - e.getD j 0)))) (wrap64 (e.getD (j + 1) 0 - e.getD j 0)))))) (by omega)
        exact ⟨r, S0 r (evNeg c1 (evPos c2 (evNeg hne hs))), I0 r (evNeg c1 (evPos c2 (evNeg hne hi)))⟩
      · obtain ⟨r, hs, hi⟩ := ih (j + 1) s (by omega)
        exact ⟨r, S0 r (evNeg c1 (evNeg c2 hs)), I0 r (evNeg c1 (evNeg c2 hi))⟩
theorem below_f (e a : List Int) (x : Int) (he : Fair e) (hl : a.length + 1 = e.length) : ∃ r : Int, Ev (fun k => spec_l11Below.f k e a x) r ∧ Ev (fun k => impl_Remap_1.f k x [a] [e]) r := by
  obtain ⟨r, hs, hi⟩ := below_both e a x he hl a.length 0 0 (by omega)
  refine ⟨r, hs, ?_⟩
  simp only [impl_Remap_1.f]
  refine evPos (by simp) ?_
  exact hi

theorem out_both (e a tt : List Int) (he : Fair e) (hl : a.length + 1 = e.length) (ht : tt.length ≤ 257) : ∀ t j o, j + 1 + t = tt.length → o.length = j → ∃ r : List Int, Ev (fun k => spec_Remap.l1 k e a tt o (j : Int)) (r, true) ∧ Ev (fun k => impl_Remap.l1 k tt o (j : Int) e a) (r, true) ∧ r.length ≤ 1048576 := by
  intro t
  induction t with
  | zero =>
    intro j o hj ho
    refine ⟨o, Ev.step (fun k => spec_Remap.l1.eq_2 _ _ _ _ _ k) ?_, Ev.step (fun k => impl_Remap.l1.eq_2 _ _ _ _ _ k) ?_, by omega⟩
    · rw [up1 (by omega)]; exact evNeg (by omega) (Ev.now _)
    · rw [up1 (by omega)]; exact evNeg (by omega) (Ev.now _)
  | succ t ih =>
    intro j o hj ho
    obtain ⟨u, us, ui⟩ := below_f e a (rd tt ((j + 1 : Nat) : Int)) he hl
    obtain ⟨v, vs, vi⟩ := below_f e a (rd tt (j : Int)) he hl
    obtain ⟨r, hs, hi, hr⟩ := ih (j + 1) (o ++ [wrap64 (u - v)]) (by omega) (by simp; omega)
    have ho2 : o.length < 17592186044416 := by omega
    refine ⟨r, Ev.step (fun k => spec_Remap.l1.eq_2 _ _ _ _ _ k) ?_, Ev.step (fun k => impl_Remap.l1.eq_2 _ _ _ _ _ k) ?_, hr⟩
    · rw [up1 (by omega)]
      exact evPos (by omega) (evPos (by omega) (Ev.bind us (evPos (by omega) (evPos (by omega) (Ev.bind vs (evPos ho2 hs))))))
    · rw [up1 (by omega)]
      exact evPos (by omega) (evPos (by omega) (Ev.bind ui (evPos (by omega) (evPos (by omega) (Ev.bind vi (evPos ho2 hi))))))

theorem amounts_both (e a tt : List Int) (he : Fair e) (hl : a.length + 1 = e.length) (ht : Fair tt) : ∀ t j, j + t = a.length → ∃ r : List Int × Bool, Ev (fun k => spec_Remap.l0 k e a tt [] (j : Int)) r ∧ Ev (fun k => impl_Remap.l0 k tt a (a.length : Int) (j : Int) e a) r ∧ r.1.length ≤ 1048576 := by
  have e3 := he.2.1
  have t2 := ht.1
  intro t
  induction t with
  | zero =>
    intro j hj
    obtain ⟨r, hs, hi, hr⟩ := out_both e a tt he hl ht.2.1 (tt.length - 1) 0 [] (by omega) rfl
    exact ⟨(r, true), Ev.step (fun k => spec_Remap.l0.eq_2 _ _ _ _ _ k) (evNeg (by omega) hs), Ev.step (fun k => impl_Remap.l0.eq_2 _ _ _ _ _ _ k) (evNeg (by omega) hi), hr⟩
  | succ t ih =>
    intro j hj
    by_cases c : inS (a.getD j 0) 0 1000000000000 = true
    · obtain ⟨r, hs, hi, hr⟩ := ih (j + 1) (by omega)
      refine ⟨r, Ev.step (fun k => spec_Remap.l0.eq_2 _ _ _ _ _ k) (evPos (by omega) (evPos (by omega) ?_)), Ev.step (fun k => impl_Remap.l0.eq_2 _ _ _ _ _ _ k) (evPos (by omega) (evPos (by omega) (evPos (by omega) ?_))), hr⟩
      · simp only [rd_nat, l2In_s, c, Option.bind_some]
        rw [up1 (by omega)]
        exact evPos trivial hs
      · simp only [rd_nat, in_s, c, Option.bind_some]
        rw [up1 (by omega)]
        exact evPos trivial hi
    · rw [Bool.not_eq_true] at c
      refine ⟨([], false), Ev.step (fun k => spec_Remap.l0.eq_2 _ _ _ _ _ k) (evPos (by omega) (evPos (by omega) ?_)), Ev.step (fun k => impl_Remap.l0.eq_2 _ _ _ _ _ _ k) (evPos (by omega) (evPos (by omega) (evPos (by omega) ?_))), Nat.zero_le _⟩
      · simp only [rd_nat, l2In_s, c, Option.bind_some]
        exact evNeg (by decide) (Ev.now _)
      · simp only [rd_nat, in_s, c, Option.bind_some]
        exact evNeg (by decide) (Ev.now _)

theorem remap_both (e a tt : List Int) (h0 : e.length ≤ 1048576) (h1 : a.length ≤ 1048576) (h2 : tt.length ≤ 1048576) : ∃ r : List Int × Bool, Ev (fun k => spec_Remap.f k e a tt) r ∧ Ev (fun k => impl_Remap.f k e a tt) r ∧ r.1.length ≤ 1048576 := by
  simp only [spec_Remap.f, impl_Remap.f, Option.bind_some]
  have noS : Ev (fun k => spec_Remap.j0 k e a tt [] true) ([], false) := Ev.step (fun k => spec_Remap.j0.eq_2 _ _ _ _ _ k) (evPos rfl (Ev.now _))
  have noI : Ev (fun k => impl_Remap.j0 k tt true e a) ([], false) := Ev.step (fun k => impl_Remap.j0.eq_2 _ _ _ _ k) (evPos rfl (Ev.now _))
  obtain ⟨b, bs, bi, hb⟩ := edges_both e h0
  obtain ⟨c, cs, ci, hc⟩ := edges_both tt h2
  cases b with
  | false => exact ⟨([], false), Ev.bind bs (evNeg (by decide) noS), Ev.bind bi (evNeg (by decide) noI), Nat.zero_le _⟩
  | true =>
    cases c with
    | false => exact ⟨([], false), Ev.bind bs (evPos rfl (Ev.bind cs (evNeg (by decide) noS))), Ev.bind bi (evPos rfl (Ev.bind ci (evNeg (by decide) noI))), Nat.zero_le _⟩
    | true =>
      have he := hb rfl
      have ht := hc rfl
      have e2 := he.1
      have hw : wrap64 ((e.length : Int) - 1) = ((e.length - 1 : Nat) : Int) := down1 (by omega) (by omega)
      by_cases hl : a.length + 1 = e.length
      · obtain ⟨r, hs, hi, hr⟩ := amounts_both e a tt he hl ht a.length 0 (by omega)
        have hq : ((a.length : Int) != wrap64 ((e.length : Int) - 1)) = false := by rw [hw]; simp; omega
        refine ⟨r, Ev.bind bs (evPos rfl (Ev.bind cs (evPos rfl ?_))), Ev.bind bi (evPos rfl (Ev.bind ci (evPos rfl ?_))), hr⟩
        · rw [hq]
          exact Ev.step (fun k => spec_Remap.j0.eq_2 _ _ _ _ _ k) (evNeg (by decide) hs)
        · rw [hq]
          exact Ev.step (fun k => impl_Remap.j0.eq_2 _ _ _ _ k) (evNeg (by decide) hi)
      · have hq : ((a.length : Int) != wrap64 ((e.length : Int) - 1)) = true := by rw [hw]; simp; omega
        refine ⟨([], false), Ev.bind bs (evPos rfl (Ev.bind cs (evPos rfl ?_))), Ev.bind bi (evPos rfl (Ev.bind ci (evPos rfl ?_))), Nat.zero_le _⟩
        · rw [hq]; exact noS
        · rw [hq]; exact noI

theorem FnExactRemap : laws_FnExactRemap.Pure := by
  intro e a tt _ _ _ _ _ _ _ _ _
  refine Ev.rounds ?_
  simp only [laws_FnExactRemap.f]
  by_cases h0 : e.length ≤ 1048576
  rotate_left
  · exact evPos (by omega) (Ev.now _)
  refine evNeg (by omega) ?_
  by_cases h1 : a.length ≤ 1048576
  rotate_left
  · exact evPos (by omega) (Ev.now _)
  refine evNeg (by omega) ?_
  by_cases h2 : tt.length ≤ 1048576
  rotate_left
  · exact evPos (by omega) (Ev.now _)
  obtain ⟨r, hs, hi, hr⟩ := remap_both e a tt h0 h1 h2
  refine evNeg (by first | omega | (simp; omega) | simp) ?_
  refine Ev.bind (toInt64S_ev _ (by first | assumption | omega | (simp; omega))) ?_
  refine Ev.bind (toInt64S_ev _ (by first | assumption | omega | (simp; omega))) ?_
  refine Ev.bind (toInt64S_ev _ (by first | assumption | omega | (simp; omega))) ?_
  refine Ev.bind hs ?_
  refine Ev.bind (toInt64S_ev _ (by first | assumption | omega | (simp; omega))) ?_
  refine Ev.bind (toInt64S_ev _ (by first | assumption | omega | (simp; omega))) ?_
  refine Ev.bind (toInt64S_ev _ (by first | assumption | omega | (simp; omega))) ?_
  refine Ev.bind hi ?_
  refine Ev.bind (eqInt64S_ev _ (by first | assumption | omega | (simp; omega))) ?_
  refine evPos (by first | rfl | trivial | simp) ?_
  refine Ev.step (fun k => laws_FnExactRemap.j0.eq_2 _ _ _ _ _ _ _ _ _ _ _ k) ?_
  refine evNeg (by simp) ?_
  refine Ev.bind (toInt64S_ev _ (by first | assumption | omega | (simp; omega))) ?_
  refine Ev.bind (eqInt64S_ev _ (by first | assumption | omega | (simp; omega))) ?_
  refine evPos (by first | rfl | trivial | simp) ?_
  refine Ev.bind (toInt64S_ev _ (by first | assumption | omega | (simp; omega))) ?_
  refine Ev.bind (eqInt64S_ev _ (by first | assumption | omega | (simp; omega))) ?_
  refine evPos (by first | rfl | trivial | simp) ?_
  refine Ev.bind (toInt64S_ev _ (by first | assumption | omega | (simp; omega))) ?_
  refine Ev.bind (eqInt64S_ev _ (by first | assumption | omega | (simp; omega))) ?_
  refine evPos (by first | rfl | trivial | simp) ?_
  first | refine Ev.bind (markInt64S_ev _ 1 (by first | omega | (simp; omega)) (by omega)) ?_ | refine Ev.bind (markInt64S_ev _ _ (by first | omega | (simp; omega)) (by omega)) ?_
  first | refine Ev.bind (markInt64S_ev _ 1 (by first | omega | (simp; omega)) (by omega)) ?_ | refine Ev.bind (markInt64S_ev _ _ (by first | omega | (simp; omega)) (by omega)) ?_
  first | refine Ev.bind (markInt64S_ev _ 1 (by first | omega | (simp; omega)) (by omega)) ?_ | refine Ev.bind (markInt64S_ev _ _ (by first | omega | (simp; omega)) (by omega)) ?_
  refine evNeg (by first | omega | (simp; omega) | simp) ?_
  refine Ev.bind (eqInt64S_ev _ (by first | assumption | omega | (simp; omega))) ?_
  refine evPos (by first | rfl | trivial | simp) ?_
  refine Ev.step (fun k => laws_FnExactRemap.j1.eq_2 _ _ _ _ _ _ _ k) ?_
  refine evNeg (by simp) ?_
  first | refine Ev.bind (markInt64S_ev _ 1 (by first | omega | (simp; omega)) (by omega)) ?_ | refine Ev.bind (markInt64S_ev _ _ (by first | omega | (simp; omega)) (by omega)) ?_
  refine Ev.bind (heldInt64S_ev _ 1 (by omega) (by omega)) ?_
  refine evNeg (by first | omega | (simp; omega) | simp) ?_
  refine evPos (by first | rfl | trivial | simp) ?_
  refine Ev.bind (toInt64S_ev _ (by first | assumption | omega | (simp; omega))) ?_
  refine Ev.bind (toInt64S_ev _ (by first | assumption | omega | (simp; omega))) ?_
  refine Ev.bind (toInt64S_ev _ (by first | assumption | omega | (simp; omega))) ?_
  refine Ev.bind hi ?_
  refine Ev.bind (eqInt64S_ev _ (by first | assumption | omega | (simp; omega))) ?_
  refine evPos (by first | rfl | trivial | simp) ?_
  refine Ev.step (fun k => laws_FnExactRemap.j2.eq_2 _ _ _ k) ?_
  refine evNeg (by simp) ?_
  refine Ev.bind (heldInt64S_ev _ 1 (by omega) (by omega)) ?_
  refine evNeg (by first | omega | (simp; omega) | simp) ?_
  refine evPos (by first | rfl | trivial | simp) ?_
  exact Ev.now _
end Go.Proofs.Ytmndffnjejgfoab.Pure
