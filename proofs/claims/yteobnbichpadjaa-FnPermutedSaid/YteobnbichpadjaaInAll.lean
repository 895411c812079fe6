/- Bounds: what the program's and the reference's tests of ranges answer. -/
import Derived.Test.YteobnbichpadjaaGen
import Derived.Test.YteobnbichpadjaaQx13
import Derived.Test.YteobnbichpadjaaQx14
import Derived.Test.YteobnbichpadjaaQx8
import Derived.Test.YteobnbichpadjaaQx9
set_option linter.unusedVariables false
set_option linter.unusedSimpArgs false
namespace Go.Proofs.Yteobnbichpadjaa.Gen
open Go.RowKit Go.Proofs.Yteobnbichpadjaa.Q Go.Proofs.Yteobnbichpadjaa.Gen Go.Proofs.YteobnbichpadjaaW.PrintWords Go.Proofs.YteobnbichpadjaaW.PrintMore

def inS (a b c : Int) : Bool := decide (b ≤ a) && decide (a ≤ c)
theorem inS_iff (a b c : Int) : inS a b c = true ↔ b ≤ a ∧ a ≤ c := by simp [inS]
theorem l2In_s (a b c : Int) : spec_l2In.f a b c = some (inS a b c) := by
  unfold spec_l2In.f inS; by_cases h : a ≥ b <;> simp [h, show b ≤ a ↔ a ≥ b from Iff.rfl]
theorem in_s (a b c : Int) : impl_in.f a b c = some (inS a b c) := by
  unfold impl_in.f inS; by_cases h : a ≥ b <;> simp [h, show b ≤ a ↔ a ≥ b from Iff.rfl]
theorem all_spec (l : List Int) (n lo hi : Int) (h : l.length ≤ 1099511627776) : Ev (fun k => spec_l15All.f k l n lo hi) (decide ((l.length : Int) = n) && l.all fun x => inS x lo hi) := by
  simp only [spec_l15All.f]
  by_cases hn : (l.length : Int) = n
  · refine evPos hn ?_
    rw [decide_eq_true hn, Bool.true_and]
    have := scan (fun k i => spec_l15All.l0 k l lo hi i) l.length (fun j => (l.drop j).all fun x => inS x lo hi) ?_ ?_ 0 (by omega)
    · simpa using this
    · intro j hj
      simp only [all_drop l _ 0 j hj]
      by_cases hb : inS (l.getD j 0) lo hi = true
      · refine .inl ⟨by rw [hb, Bool.true_and], 0, fun k _ => ?_⟩
        simp only [spec_l15All.l0]
        rw [if_pos (by omega), if_pos (by omega), rd_nat, l2In_s, hb, Option.bind_some, if_pos rfl, up1 (by omega)]
      · rw [Bool.not_eq_true] at hb
        refine .inr (Ev_succ fun k => ?_)
        simp only [spec_l15All.l0]
        rw [if_pos (by omega), if_pos (by omega), rd_nat, l2In_s, hb]
        rfl
    · refine Ev_succ fun k => ?_
      simp only [spec_l15All.l0]
      rw [if_neg (by omega)]
      simp
  · refine evNeg hn ?_
    rw [decide_eq_false hn]
    exact Ev.now _
theorem all_impl (l : List Int) (n lo hi : Int) (h : l.length ≤ 1099511627776) : Ev (fun k => impl_each.f k l n lo hi) (decide ((l.length : Int) = n) && l.all fun x => inS x lo hi) := by
  simp only [impl_each.f]
  by_cases hn : (l.length : Int) = n
  · refine evPos hn ?_
    rw [decide_eq_true hn, Bool.true_and]
    have := scan (fun k i => impl_each.l0 k lo hi l (l.length : Int) i) l.length (fun j => (l.drop j).all fun x => inS x lo hi) ?_ ?_ 0 (by omega)
    · simpa using this
    · intro j hj
      simp only [all_drop l _ 0 j hj]
      by_cases hb : inS (l.getD j 0) lo hi = true
      · refine .inl ⟨by rw [hb, Bool.true_and], 0, fun k _ => ?_⟩
        simp only [impl_each.l0]
        rw [if_pos (by omega), if_pos (by omega), if_pos (by omega), rd_nat, in_s, hb, Option.bind_some, if_pos rfl, up1 (by omega)]
      · rw [Bool.not_eq_true] at hb
        refine .inr (Ev_succ fun k => ?_)
        simp only [impl_each.l0]
        rw [if_pos (by omega), if_pos (by omega), if_pos (by omega), rd_nat, in_s, hb]
        rfl
    · refine Ev_succ fun k => ?_
      simp only [impl_each.l0]
      rw [if_neg (by omega)]
      simp
  · refine evNeg hn ?_
    rw [decide_eq_false hn]
    exact Ev.now _

end Go.Proofs.Yteobnbichpadjaa.Gen
