/- The plain statement of the law FnExactTable: program and reference count the same, for all lists of probabilities; no condition. -/
import Derived.Test.YtmndffnjejgfoaaTProb
import Derived.Test.YtmndffnjejgfoaaQx10
import Derived.Test.YtmndffnjejgfoaaQx11
import Derived.Test.YtmndffnjejgfoaaQx13
import Derived.Test.YtmndffnjejgfoaaQx7
import Derived.Test.YtmndffnjejgfoaaQx8
import Derived.Test.YtmndffnjejgfoaaQx9
set_option linter.unusedVariables false
set_option linter.unusedSimpArgs false
namespace Go.Proofs.Ytmndffnjejgfoaa.Pure
open Go.RowKit Go.Proofs.Ytmndffnjejgfoaa.Q Go.Proofs.Ytmndffnjejgfoaa.Gen Go.Proofs.YtmndffnjejgfoaaW.PrintWords Go.Proofs.YtmndffnjejgfoaaW.PrintMore

theorem l2In_eqT (a b c : Int) : spec_l2In.f a b c = some (decide (b ≤ a) && decide (a ≤ c)) := by
  unfold spec_l2In.f; by_cases h : a ≥ b <;> simp [h, show b ≤ a ↔ a ≥ b from Iff.rfl]
theorem in_eqT (a b c : Int) : impl_in.f a b c = some (decide (b ≤ a) && decide (a ≤ c)) := by
  unfold impl_in.f; by_cases h : a ≥ b <;> simp [h, show b ≤ a ↔ a ≥ b from Iff.rfl]

def pOk (x : S59) : Bool := decide (0 ≤ x.f0) && decide (x.f0 ≤ 100)
def probsAll (l : List S59) : Bool := decide (l.length ≤ 1000) && l.all pOk
theorem rdT (l : List S59) (i : Nat) : rd_T59 l (i : Int) = l.getD i z59 := by simp [rd_T59]

theorem probs_spec (l : List S59) (h : l.length ≤ 1099511627776) : Ev (fun k => spec_l18ToldOk.f k l) (probsAll l) := by
  simp only [spec_l18ToldOk.f]
  by_cases h1 : (l.length : Int) > 1000
  · refine evPos h1 ?_
    rw [show probsAll l = false by simp [probsAll, show ¬ l.length ≤ 1000 by omega]]
    exact Ev.now _
  refine evNeg h1 ?_
  rw [show probsAll l = l.all pOk by simp [probsAll, show l.length ≤ 1000 by omega]]
  have := scan (fun k i => spec_l18ToldOk.l0 k l i) l.length (fun j => (l.drop j).all pOk) ?_ ?_ 0 (by omega)
  · simpa using this
  · intro j hj
    simp only [all_drop l _ z59 j hj]
    by_cases hb : pOk (l.getD j z59) = true
    · refine .inl ⟨by rw [hb, Bool.true_and], 0, fun k _ => ?_⟩
      simp only [spec_l18ToldOk.l0]
      rw [if_pos (by omega), if_pos (by omega), rdT, l2In_eqT, show (decide (0 ≤ (l.getD j z59).f0) && decide ((l.getD j z59).f0 ≤ 100)) = true from hb, Option.bind_some, if_pos rfl, up1 (by omega)]
    · rw [Bool.not_eq_true] at hb
      refine .inr (Ev_succ fun k => ?_)
      simp only [spec_l18ToldOk.l0]
      rw [if_pos (by omega), if_pos (by omega), rdT, l2In_eqT, show (decide (0 ≤ (l.getD j z59).f0) && decide ((l.getD j z59).f0 ≤ 100)) = false from hb, hb]
      rfl
  · refine Ev_succ fun k => ?_
    simp only [spec_l18ToldOk.l0]
    rw [if_neg (by omega)]
    simp

theorem probs_impl (l : List S59) (h : l.length ≤ 1099511627776) : Ev (fun k => impl_probsOk.f k l) (probsAll l) := by
  simp only [impl_probsOk.f]
  by_cases h1 : (l.length : Int) > 1000
  · refine evPos h1 ?_
    rw [show probsAll l = false by simp [probsAll, show ¬ l.length ≤ 1000 by omega]]
    exact Ev.now _
  refine evNeg h1 ?_
  rw [show probsAll l = l.all pOk by simp [probsAll, show l.length ≤ 1000 by omega]]
  have := scan (fun k i => impl_probsOk.l0 k l (l.length : Int) i) l.length (fun j => (l.drop j).all pOk) ?_ ?_ 0 (by omega)
  · simpa using this
  · intro j hj
    simp only [all_drop l _ z59 j hj]
    by_cases hb : pOk (l.getD j z59) = true
    · refine .inl ⟨by rw [hb, Bool.true_and], 0, fun k _ => ?_⟩
      simp only [impl_probsOk.l0]
      rw [if_pos (by omega), if_pos (by omega), if_pos (by omega), rdT, in_eqT, show (decide (0 ≤ (l.getD j z59).f0) && decide ((l.getD j z59).f0 ≤ 100)) = true from hb, Option.bind_some, if_pos rfl, up1 (by omega)]
    · rw [Bool.not_eq_true] at hb
      refine .inr (Ev_succ fun k => ?_)
      simp only [impl_probsOk.l0]
      rw [if_pos (by omega), if_pos (by omega), if_pos (by omega), rdT, in_eqT, show (decide (0 ≤ (l.getD j z59).f0) && decide ((l.getD j z59).f0 ≤ 100)) = false from hb, hb]
      rfl
  · refine Ev_succ fun k => ?_
    simp only [impl_probsOk.l0]
    rw [if_neg (by omega)]
    simp

def upd (p : Int) (c : Int × Int × Int × Int) (x : S59) : Int × Int × Int × Int :=
  if x.f0 ≥ p then (if x.f1 = true then (wrap64 (c.1 + 1), c.2.1, c.2.2.1, c.2.2.2) else (c.1, c.2.1, wrap64 (c.2.2.1 + 1), c.2.2.2))
  else (if x.f1 = true then (c.1, wrap64 (c.2.1 + 1), c.2.2.1, c.2.2.2) else (c.1, c.2.1, c.2.2.1, wrap64 (c.2.2.2 + 1)))
def cnt (p : Int) (l : List S59) (j : Nat) : Int × Int × Int × Int := (l.take j).foldl (upd p) (0, 0, 0, 0)
theorem cnt_succ (p : Int) (l : List S59) (j : Nat) (hj : j < l.length) : cnt p l (j + 1) = upd p (cnt p l j) (l.getD j z59) := by
  unfold cnt
  rw [List.take_succ_eq_append_getElem hj, List.foldl_append, List.getD_eq_getElem?_getD, List.getElem?_eq_getElem hj]
  rfl

theorem table_spec (l : List S59) (p : Int) (h : l.length ≤ 1048576) : Ev (fun k => spec_Table.f k l p) (if probsAll l = true then cnt p l l.length else (0, 0, 0, 0)) := by
  obtain ⟨K, hK0⟩ := probs_spec l (by omega)
  have hK : ∀ k, K ≤ k → spec_l18ToldOk.f k l = some (probsAll l) := hK0
  simp only [spec_Table.f]
  by_cases hb : probsAll l = true
  · rw [if_pos hb]
    rw [hb] at hK
    have key : ∀ d j, l.length - j = d → j ≤ l.length → Ev (fun k => spec_Table.l0 k l p (j : Int) (cnt p l j).1 (cnt p l j).2.1 (cnt p l j).2.2.1 (cnt p l j).2.2.2) (cnt p l l.length) := by
      intro d
      induction d with
      | zero =>
        intro j h1 h2
        obtain rfl : j = l.length := by omega
        refine Ev.step (f := fun k => spec_Table.j1 k l p (l.length : Int) false (cnt p l l.length).1 (cnt p l l.length).2.1 (cnt p l l.length).2.2.1 (cnt p l l.length).2.2.2) (fun k => ?_) (Ev_succ fun k => ?_)
        · simp only [spec_Table.l0]
          rw [if_neg (by omega)]
        · simp only [spec_Table.j1]
          rfl
      | succ d ih =>
        intro j h1 h2
        have hj : j < l.length := by omega
        obtain ⟨K', ih'⟩ := ih (j + 1) (by omega) (by omega)
        rw [cnt_succ p l j hj] at ih'
        refine ⟨max K K' + 3, fun k hk => ?_⟩
        obtain ⟨k, rfl⟩ : ∃ m, k = m + 3 := ⟨k - 3, by omega⟩
        simp only [spec_Table.l0]
        rw [if_pos (by omega), hK _ (by omega), Option.bind_some]
        simp only [spec_Table.j1]
        rw [if_pos trivial, if_pos (by omega), if_pos (by omega), rdT]
        have ihk := ih' k (by omega)
        simp only [upd] at ihk
        by_cases hp : (l.getD j z59).f0 ≥ p
        · rw [if_pos hp]
          rw [if_pos hp] at ihk
          simp only [spec_Table.j2]
          by_cases hh : (l.getD j z59).f1 = true
          · rw [if_pos hh, up1 (by omega)]
            rw [if_pos hh] at ihk
            exact ihk
          · rw [if_neg hh, if_pos (by omega), if_pos (by omega), rdT, if_neg hh, if_pos (by simpa using hp), up1 (by omega)]
            rw [if_neg hh] at ihk
            exact ihk
        · rw [if_neg hp]
          rw [if_neg hp] at ihk
          simp only [spec_Table.j2]
          rw [if_neg (by decide), if_pos (by omega), if_pos (by omega), rdT]
          by_cases hh : (l.getD j z59).f1 = true
          · rw [if_pos hh, up1 (by omega)]
            rw [if_pos hh] at ihk
            exact ihk
          · rw [if_neg hh, if_neg (by simpa using hp), up1 (by omega)]
            rw [if_neg hh] at ihk
            exact ihk
    exact key _ 0 rfl (by omega)
  · rw [if_neg hb]
    rw [Bool.not_eq_true] at hb
    rw [hb] at hK
    refine ⟨K + 2, fun k hk => ?_⟩
    obtain ⟨k, rfl⟩ : ∃ m, k = m + 2 := ⟨k - 2, by omega⟩
    simp only [spec_Table.l0]
    by_cases hl : (0 : Int) < (l.length : Int)
    · rw [if_pos hl, hK _ (by omega), Option.bind_some]
      simp only [spec_Table.j1]
      rfl
    · rw [if_neg hl]
      simp only [spec_Table.j1]
      rfl

theorem table_impl (l : List S59) (p : Int) (h : l.length ≤ 1048576) : Ev (fun k => impl_Table.f k l p) (if probsAll l = true then cnt p l l.length else (0, 0, 0, 0)) := by
  simp only [impl_Table.f]
  refine Ev.bind (probs_impl l (by omega)) ?_
  by_cases hb : probsAll l = true
  · rw [if_pos hb]
    refine evPos hb ?_
    have key : ∀ d j, l.length - j = d → j ≤ l.length → Ev (fun k => impl_Table.l0 k p l (l.length : Int) (j : Int) (cnt p l j).1 (cnt p l j).2.1 (cnt p l j).2.2.1 (cnt p l j).2.2.2) (cnt p l l.length) := by
      intro d
      induction d with
      | zero =>
        intro j h1 h2
        obtain rfl : j = l.length := by omega
        refine Ev_succ fun k => ?_
        simp only [impl_Table.l0]
        rw [if_neg (by omega)]
      | succ d ih =>
        intro j h1 h2
        have hj : j < l.length := by omega
        obtain ⟨K', ih'⟩ := ih (j + 1) (by omega) (by omega)
        rw [cnt_succ p l j hj] at ih'
        refine ⟨K' + 2, fun k hk => ?_⟩
        obtain ⟨k, rfl⟩ : ∃ m, k = m + 2 := ⟨k - 2, by omega⟩
        simp only [impl_Table.l0]
        rw [if_pos (by omega), if_pos (by omega), if_pos (by omega), rdT]
        have ihk := ih' k (by omega)
        simp only [upd] at ihk
        by_cases hp : (l.getD j z59).f0 ≥ p
        · rw [if_pos hp]
          rw [if_pos hp] at ihk
          simp only [impl_Table.j1]
          by_cases hh : (l.getD j z59).f1 = true
          · rw [if_pos hh, up1 (by omega)]
            rw [if_pos hh] at ihk
            exact ihk
          · rw [if_neg hh, if_neg hh, if_pos hp, up1 (by omega)]
            rw [if_neg hh] at ihk
            exact ihk
        · rw [if_neg hp]
          rw [if_neg hp] at ihk
          simp only [impl_Table.j1]
          rw [if_neg (by decide)]
          by_cases hh : (l.getD j z59).f1 = true
          · rw [if_pos hh, up1 (by omega)]
            rw [if_pos hh] at ihk
            exact ihk
          · rw [if_neg hh, if_neg hp, up1 (by omega)]
            rw [if_neg hh] at ihk
            exact ihk
    exact key _ 0 rfl (by omega)
  · rw [if_neg hb]
    exact evNeg hb (Ev.now _)

theorem FnExactTable : laws_FnExactTable.Pure := by
  intro l p hl _
  refine Ev.rounds ?_
  simp only [laws_FnExactTable.f]
  by_cases h : (1048576 : Int) - (l.length : Int) < 0
  · have e : laws_szProbS.f l 1048576 = some (-1) := by
      unfold laws_szProbS.f
      rw [w64 (by omega) (by omega), if_pos h]
    simp only [e, Option.bind_some]
    exact evPos (by decide) (Ev.now _)
  · have e : laws_szProbS.f l 1048576 = some (1048576 - (l.length : Int)) := by
      unfold laws_szProbS.f
      rw [w64 (by omega) (by omega), if_neg h]
    have hn : l.length ≤ 1048576 := by omega
    simp only [e, Option.bind_some]
    refine evNeg h ?_
    have hm : (l.map convProb).length ≤ 1048576 := by simpa using hn
    refine Ev.bind (toProbS_ev l hn) (Ev.bind (table_spec _ p hm) (Ev.bind (toProbS_ev l hn) (Ev.bind (table_impl _ p hm) ?_)))
    have e2 : ∀ a b c d : Int, laws_eqCounts.f a b c d a b c d = some true := by intro a b c d; simp [laws_eqCounts.f]
    simp only [e2, Option.bind_some]
    exact evPos (by trivial) (Ev.bind (toProbS_ev l hn) (Ev.bind (eqProbS_ev (l.map convProb) (by omega)) (evPos (by trivial) (Ev.now _))))

end Go.Proofs.Ytmndffnjejgfoaa.Pure
