/- The plain statement of the law FnExactSuiteOk: program and reference answer alike, for all suites; no condition. -/
import Derived.Test.YtcdghhihfjojaaaI64
import Derived.Test.YtcdghhihfjojaaaQx1
import Derived.Test.YtcdghhihfjojaaaQx13
import Derived.Test.YtcdghhihfjojaaaQx14
import Derived.Test.YtcdghhihfjojaaaQx15
import Derived.Test.YtcdghhihfjojaaaQx16
import Derived.Test.YtcdghhihfjojaaaQx17
import Derived.Test.YtcdghhihfjojaaaQx18
import Derived.Test.YtcdghhihfjojaaaQx19
import Derived.Test.YtcdghhihfjojaaaQx20
import Derived.Test.YtcdghhihfjojaaaQx21
import Derived.Test.YtcdghhihfjojaaaQx3
set_option linter.unusedVariables false
set_option linter.unusedSimpArgs false
namespace Go.Proofs.Ytcdghhihfjojaaa.Pure
open Go.RowKit Go.Proofs.Ytcdghhihfjojaaa.Q Go.Proofs.Ytcdghhihfjojaaa.Gen Go.Proofs.YtcdghhihfjojaaaW.PrintWords Go.Proofs.YtcdghhihfjojaaaW.PrintMore

def inS (a b c : Int) : Bool := decide (b ≤ a) && decide (a ≤ c)
theorem inS_iff (a b c : Int) : inS a b c = true ↔ b ≤ a ∧ a ≤ c := by simp [inS]
theorem l2In_s (a b c : Int) : spec_l2In.f a b c = some (inS a b c) := by
  unfold spec_l2In.f inS; by_cases h : a ≥ b <;> simp [h, show b ≤ a ↔ a ≥ b from Iff.rfl]
theorem in_s (a b c : Int) : impl_in.f a b c = some (inS a b c) := by
  unfold impl_in.f inS; by_cases h : a ≥ b <;> simp [h, show b ≤ a ↔ a ≥ b from Iff.rfl]

theorem all_spec (l : List Int) (n lo hi : Int) (h : l.length ≤ 1099511627776) : Ev (fun k => spec_l15All.f k l n lo hi) (decide ((l.length : Int) = n) && l.all fun x => inS x lo hi) := by
  simp only [spec_l15All.f]
  by_cases hn : (l.length : Int) = n
  · refine evPos hn ?_
    rw [decide_eq_true hn, Bool.true_and]
    have := scan (fun k i => spec_l15All.l0 k l lo hi i) l.length (fun j => (l.drop j).all fun x => inS x lo hi) ?_ ?_ 0 (by omega)
    · simpa using this
    · intro j hj
      simp only [all_drop l _ 0 j hj]
      by_cases hb : inS (l.getD j 0) lo hi = true
      · refine .inl ⟨by rw [hb, Bool.true_and], 0, fun k _ => ?_⟩
        simp only [spec_l15All.l0]
        rw [if_pos (by omega), if_pos (by omega), rd_nat, l2In_s, hb, Option.bind_some, if_pos rfl, up1 (by omega)]
      · rw [Bool.not_eq_true] at hb
        refine .inr (Ev_succ fun k => ?_)
        simp only [spec_l15All.l0]
        rw [if_pos (by omega), if_pos (by omega), rd_nat, l2In_s, hb]
        rfl
    · refine Ev_succ fun k => ?_
      simp only [spec_l15All.l0]
      rw [if_neg (by omega)]
      simp
  · refine evNeg hn ?_
    rw [decide_eq_false hn]
    exact Ev.now _

theorem all_impl (l : List Int) (n lo hi : Int) (h : l.length ≤ 1099511627776) : Ev (fun k => impl_each.f k l n lo hi) (decide ((l.length : Int) = n) && l.all fun x => inS x lo hi) := by
  simp only [impl_each.f]
  by_cases hn : (l.length : Int) = n
  · refine evPos hn ?_
    rw [decide_eq_true hn, Bool.true_and]
    have := scan (fun k i => impl_each.l0 k lo hi l (l.length : Int) i) l.length (fun j => (l.drop j).all fun x => inS x lo hi) ?_ ?_ 0 (by omega)
    · simpa using this
    · intro j hj
      simp only [all_drop l _ 0 j hj]
      by_cases hb : inS (l.getD j 0) lo hi = true
      · refine .inl ⟨by rw [hb, Bool.true_and], 0, fun k _ => ?_⟩
        simp only [impl_each.l0]
        rw [if_pos (by omega), if_pos (by omega), if_pos (by omega), rd_nat, in_s, hb, Option.bind_some, if_pos rfl, up1 (by omega)]
      · rw [Bool.not_eq_true] at hb
        refine .inr (Ev_succ fun k => ?_)
        simp only [impl_each.l0]
        rw [if_pos (by omega), if_pos (by omega), if_pos (by omega), rd_nat, in_s, hb]
        rfl
    · refine Ev_succ fun k => ?_
      simp only [impl_each.l0]
      rw [if_neg (by omega)]
      simp
  · refine evNeg hn ?_
    rw [decide_eq_false hn]
    exact Ev.now _

def aftP (a : List Int) (i : Int) (k : Nat) : Bool := inS (a.getD k 0) 1 i && (decide (k = 0) || decide (a.getD (k - 1) 0 < a.getD k 0))
def aft (a : List Int) (i : Int) (j : Nat) : Bool := ((List.range a.length).drop j).all (aftP a i)
theorem range_getD (n j : Nat) (h : j < n) : (List.range n).getD j 0 = j := by simp [List.getD_eq_getElem?_getD, h]
theorem aft_step (a : List Int) (i : Int) (j : Nat) (h : j < a.length) : aft a i j = (aftP a i j && aft a i (j + 1)) := by
  unfold aft
  rw [all_drop (List.range a.length) _ 0 j (by simpa using h), range_getD _ _ h]
theorem aft_end (a : List Int) (i : Int) : aft a i a.length = true := by
  unfold aft
  rw [List.drop_eq_nil_of_le (by simp)]
  rfl

theorem aft_len (a : List Int) (i : Int) (h : aft a i 0 = true) (h1 : 0 ≤ i) : (a.length : Int) ≤ i := by
  have key : ∀ j, j < a.length → (j : Int) + 1 ≤ a.getD j 0 ∧ a.getD j 0 ≤ i := by
    have all : ∀ j, j < a.length → aftP a i j = true := by
      intro j hj
      unfold aft at h
      rw [List.drop_zero, List.all_eq_true] at h
      exact h j (by simpa using hj)
    intro j
    induction j with
    | zero =>
      intro hj
      have := all 0 hj
      simp [aftP, inS] at this
      simp
      omega
    | succ j ih =>
      intro hj
      have h1 := ih (by omega)
      have := all (j + 1) hj
      unfold aftP at this
      rw [Bool.and_eq_true, inS_iff, Bool.or_eq_true, decide_eq_true_iff, decide_eq_true_iff] at this
      obtain ⟨⟨_, h3⟩, h4⟩ := this
      rcases h4 with h4 | h4
      · omega
      · rw [Nat.add_sub_cancel] at h4
        omega
  by_cases h0 : a.length = 0
  · omega
  · have := key (a.length - 1) (by omega)
    omega

def rest (nl : Int) (t : S78) : Bool := inS t.f1 1 nl && (inS t.f2 0 1000000000000 && inS t.f3 1 5)
def suf (l : List S78) (nl : Int) (j : Nat) : Bool := ((List.range l.length).drop j).all fun i => aft (l.getD i z78).f0 i 0 && rest nl (l.getD i z78)
theorem suf_step (l : List S78) (nl : Int) (j : Nat) (h : j < l.length) : suf l nl j = ((aft (l.getD j z78).f0 j 0 && rest nl (l.getD j z78)) && suf l nl (j + 1)) := by
  unfold suf
  rw [all_drop (List.range l.length) _ 0 j (by simpa using h), range_getD _ _ h]
theorem suf_end (l : List S78) (nl : Int) : suf l nl l.length = true := by
  unfold suf
  rw [List.drop_eq_nil_of_le (by simp)]
  rfl
theorem rdT78 (l : List S78) (i : Nat) : rd_T78 l (i : Int) = l.getD i z78 := by simp [rd_T78]

def okSuite (l : List S78) (m : List Int) : Bool := decide (1 ≤ l.length) && decide (l.length ≤ 60) && decide (1 ≤ m.length) && decide (m.length ≤ 6) && (m.all fun x => inS x 1 60) && suf l m.length 0

theorem w_less {j : Nat} (h : 0 < j) (h2 : j ≤ 1099511627776) : wrap64 ((j : Int) - 1) = ((j - 1 : Nat) : Int) := by rw [w64 (by omega) (by omega)]; omega

theorem suite_spec_l0 (l : List S78) (m : List Int) (hl : l.length ≤ 60) (hm : m.length ≤ 6) (ha : ∀ x ∈ l, x.f0.length ≤ 1048576) :
    Ev (fun k => spec_SuiteOk.l0 k 0 l m) (suf l m.length 0) := by
  have main : ∀ t j, l.length - j = t → j ≤ l.length → Ev (fun k => spec_SuiteOk.l0 k (j : Int) l m) (suf l m.length j) := by
    intro t
    induction t with
    | zero =>
      intro j h1 h2
      obtain rfl : j = l.length := by omega
      rw [suf_end]
      refine Ev_succ fun k => ?_
      simp only [spec_SuiteOk.l0]
      rw [if_neg (by omega)]
    | succ t ih =>
      intro j h1 h2
      have hj : j < l.length := by omega
      rw [suf_step l _ j hj]
      have haj : (l.getD j z78).f0.length ≤ 1048576 := by
        rw [List.getD_eq_getElem?_getD, List.getElem?_eq_getElem hj]; exact ha _ (List.getElem_mem hj)
      have rest_ := ih (j + 1) (by omega) (by omega)
      generalize hx : l.getD j z78 = x at *
      have hrd : rd_T78 l (j : Int) = x := by rw [rdT78, hx]
      have no : Ev (fun k => spec_SuiteOk.j2 k (j : Int) true l m x.f0 x.f1 x.f2 x.f3) false := Ev_succ fun k => by simp only [spec_SuiteOk.j2]; rfl
      have inner : ∀ t q, x.f0.length - q = t → q ≤ x.f0.length → Ev (fun k => spec_SuiteOk.l1 k (j : Int) (q : Int) l m x.f0 x.f1 x.f2 x.f3) (aft x.f0 j q && suf l m.length (j + 1)) := by
        intro t
        induction t with
        | zero =>
          intro q h3 h4
          obtain rfl : q = x.f0.length := by omega
          rw [aft_end, Bool.true_and]
          refine Ev.step (fun k => ?_) rest_
          simp only [spec_SuiteOk.l1]
          rw [if_neg (by omega), up1 (by omega)]
        | succ t ih2 =>
          intro q h3 h4
          have hq : q < x.f0.length := by omega
          have ih2 := ih2 (q + 1) (by omega) (by omega)
          rw [aft_step _ _ q hq]
          by_cases c1 : inS (x.f0.getD q 0) 1 (j : Int) = true
          · by_cases c2 : q = 0
            · rw [show aftP x.f0 j q = true by unfold aftP; rw [c1]; simp [c2], Bool.true_and]
              refine Ev.step (fun k => ?_) ih2
              simp only [spec_SuiteOk.l1]
              rw [if_pos (by omega), if_pos (by omega), rd_nat, l2In_s, c1, Option.bind_some, if_pos rfl, if_neg (by omega), up1 (by omega)]
            · by_cases c3 : x.f0.getD (q - 1) 0 < x.f0.getD q 0
              · rw [show aftP x.f0 j q = true by unfold aftP; rw [c1, decide_eq_true c3]; simp, Bool.true_and]
                refine Ev.step (fun k => ?_) ih2
                simp only [spec_SuiteOk.l1]
                rw [if_pos (by omega), if_pos (by omega), rd_nat, l2In_s, c1, Option.bind_some, if_pos rfl, if_pos (by omega), w_less (by omega) (by omega), if_pos (by omega), if_pos (by omega), rd_nat, if_neg (by omega), up1 (by omega)]
              · rw [show aftP x.f0 j q = false by unfold aftP; rw [decide_eq_false c3, decide_eq_false c2]; simp, Bool.false_and, Bool.false_and]
                refine Ev_succ fun k => ?_
                simp only [spec_SuiteOk.l1]
                rw [if_pos (by omega), if_pos (by omega), rd_nat, l2In_s, c1, Option.bind_some, if_pos rfl, if_pos (by omega), w_less (by omega) (by omega), if_pos (by omega), if_pos (by omega), rd_nat, if_pos (by omega)]
          · rw [Bool.not_eq_true] at c1
            rw [show aftP x.f0 j q = false by unfold aftP; rw [c1]; rfl, Bool.false_and, Bool.false_and]
            refine Ev_succ fun k => ?_
            simp only [spec_SuiteOk.l1]
            rw [if_pos (by omega), if_pos (by omega), rd_nat, l2In_s, c1]
            rfl
      by_cases c0 : (x.f0.length : Int) > (j : Int)
      · have : aft x.f0 j 0 = false := by
          rw [← Bool.not_eq_true]
          intro h
          have := aft_len x.f0 j h (by omega)
          omega
        rw [this, Bool.false_and, Bool.false_and]
        refine Ev.step (fun k => ?_) no
        simp only [spec_SuiteOk.l0, hrd]
        rw [if_pos (by omega), if_pos (by omega), if_pos c0]
      · have out : Ev (fun k => spec_SuiteOk.j2 k (j : Int) (!rest (m.length : Int) x) l m x.f0 x.f1 x.f2 x.f3) ((aft x.f0 j 0 && rest (m.length : Int) x) && suf l m.length (j + 1)) := by
          by_cases hr : rest (m.length : Int) x = true
          · rw [hr, Bool.and_true]
            refine Ev.step (fun k => ?_) (inner x.f0.length 0 (by omega) (by omega))
            simp only [spec_SuiteOk.j2]
            rfl
          · rw [Bool.not_eq_true] at hr
            rw [hr, Bool.and_false, Bool.false_and]
            exact no
        refine Ev.step (fun k => ?_) out
        simp only [spec_SuiteOk.l0, hrd, l2In_s, Option.bind_some]
        rw [if_pos (by omega), if_pos (by omega), if_neg c0]
        unfold rest
        by_cases c1 : inS x.f1 1 (m.length : Int) = true
        · rw [if_pos c1, c1, Bool.true_and]
          by_cases c2 : inS x.f2 0 1000000000000 = true
          · rw [if_pos c2, c2, Bool.true_and]
          · rw [if_neg c2]
            rw [Bool.not_eq_true] at c2
            rw [c2]
            rfl
        · rw [if_neg c1]
          rw [Bool.not_eq_true] at c1
          rw [c1]
          rfl
  exact main _ 0 rfl (by omega)

theorem suite_impl_l0 (l : List S78) (m : List Int) (hl : l.length ≤ 60) (hm : m.length ≤ 6) (ha : ∀ x ∈ l, x.f0.length ≤ 1048576) :
    Ev (fun k => impl_SuiteOk.l0 k l (l.length : Int) 0 l m) (suf l m.length 0) := by
  have main : ∀ t j, l.length - j = t → j ≤ l.length → Ev (fun k => impl_SuiteOk.l0 k l (l.length : Int) (j : Int) l m) (suf l m.length j) := by
    intro t
    induction t with
    | zero =>
      intro j h1 h2
      obtain rfl : j = l.length := by omega
      rw [suf_end]
      refine Ev_succ fun k => ?_
      simp only [impl_SuiteOk.l0]
      rw [if_neg (by omega)]
    | succ t ih =>
      intro j h1 h2
      have hj : j < l.length := by omega
      rw [suf_step l _ j hj]
      have haj : (l.getD j z78).f0.length ≤ 1048576 := by
        rw [List.getD_eq_getElem?_getD, List.getElem?_eq_getElem hj]; exact ha _ (List.getElem_mem hj)
      have rest_ := ih (j + 1) (by omega) (by omega)
      generalize hx : l.getD j z78 = x at *
      have hrd : rd_T78 l (j : Int) = x := by rw [rdT78, hx]
      have inner : ∀ t q, x.f0.length - q = t → q ≤ x.f0.length → Ev (fun k => impl_SuiteOk.l1 k (j : Int) l (l.length : Int) (j : Int) x.f0 (x.f0.length : Int) (q : Int) l m x.f0 x.f1 x.f2 x.f3) ((aft x.f0 j q && rest (m.length : Int) x) && suf l m.length (j + 1)) := by
        intro t
        induction t with
        | zero =>
          intro q h3 h4
          obtain rfl : q = x.f0.length := by omega
          rw [aft_end, Bool.true_and]
          by_cases hr : rest (m.length : Int) x = true
          · rw [hr, Bool.true_and]
            refine Ev.step (fun k => ?_) rest_
            simp only [impl_SuiteOk.l1, in_s, Option.bind_some]
            unfold rest at hr
            rw [Bool.and_eq_true, Bool.and_eq_true] at hr
            rw [if_neg (by omega), if_pos hr.1, if_pos hr.2.1, if_pos hr.2.2, up1 (by omega)]
          · rw [Bool.not_eq_true] at hr
            rw [hr, Bool.false_and]
            refine Ev_succ fun k => ?_
            simp only [impl_SuiteOk.l1, in_s, Option.bind_some]
            rw [if_neg (by omega)]
            unfold rest at hr
            by_cases c1 : inS x.f1 1 (m.length : Int) = true
            · rw [if_pos c1]
              by_cases c2 : inS x.f2 0 1000000000000 = true
              · rw [if_pos c2]
                rw [c1, c2, Bool.true_and, Bool.true_and] at hr
                rw [if_neg (by simp [hr])]
              · rw [if_neg c2]
            · rw [if_neg c1]
        | succ t ih2 =>
          intro q h3 h4
          have hq : q < x.f0.length := by omega
          have ih2 := ih2 (q + 1) (by omega) (by omega)
          rw [aft_step _ _ q hq]
          by_cases c1 : inS (x.f0.getD q 0) 1 (j : Int) = true
          · by_cases c2 : q = 0
            · rw [show aftP x.f0 j q = true by unfold aftP; rw [c1]; simp [c2], Bool.true_and]
              refine Ev.step (fun k => ?_) ih2
              simp only [impl_SuiteOk.l1]
              rw [if_pos (by omega), if_pos (by omega), if_pos (by omega), rd_nat, in_s, c1, Option.bind_some, if_pos rfl, if_neg (by omega), up1 (by omega)]
            · by_cases c3 : x.f0.getD (q - 1) 0 < x.f0.getD q 0
              · rw [show aftP x.f0 j q = true by unfold aftP; rw [c1, decide_eq_true c3]; simp, Bool.true_and]
                refine Ev.step (fun k => ?_) ih2
                simp only [impl_SuiteOk.l1]
                rw [if_pos (by omega), if_pos (by omega), if_pos (by omega), rd_nat, in_s, c1, Option.bind_some, if_pos rfl, if_pos (by omega), w_less (by omega) (by omega), if_pos (by omega), if_pos (by omega), rd_nat, if_neg (by omega), up1 (by omega)]
              · rw [show aftP x.f0 j q = false by unfold aftP; rw [decide_eq_false c3, decide_eq_false c2]; simp, Bool.false_and, Bool.false_and, Bool.false_and]
                refine Ev_succ fun k => ?_
                simp only [impl_SuiteOk.l1]
                rw [if_pos (by omega), if_pos (by omega), if_pos (by omega), rd_nat, in_s, c1, Option.bind_some, if_pos rfl, if_pos (by omega), w_less (by omega) (by omega), if_pos (by omega), if_pos (by omega), rd_nat, if_pos (by omega)]
          · rw [Bool.not_eq_true] at c1
            rw [show aftP x.f0 j q = false by unfold aftP; rw [c1]; rfl, Bool.false_and, Bool.false_and, Bool.false_and]
            refine Ev_succ fun k => ?_
            simp only [impl_SuiteOk.l1]
            rw [if_pos (by omega), if_pos (by omega), if_pos (by omega), rd_nat, in_s, c1]
            rfl
      refine Ev.step (fun k => ?_) (inner x.f0.length 0 (by omega) (by omega))
      simp only [impl_SuiteOk.l0, hrd]
      rw [if_pos (by omega), if_pos (by omega), if_pos (by omega)]
      rfl
  exact main _ 0 rfl (by omega)

theorem suite_spec (l : List S78) (m : List Int) (hm : m.length ≤ 1048576) (ha : ∀ x ∈ l, x.f0.length ≤ 1048576) : Ev (fun k => spec_SuiteOk.f k l m) (okSuite l m) := by
  simp only [spec_SuiteOk.f]
  have no : Ev (fun k => spec_SuiteOk.j0 k true l m) false := Ev_succ fun k => by simp only [spec_SuiteOk.j0]; rfl
  by_cases h1 : (l.length : Int) < 1
  · rw [show okSuite l m = false by simp [okSuite, show ¬ 1 ≤ l.length by omega]]
    exact evPos h1 no
  refine evNeg h1 ?_
  by_cases h2 : (l.length : Int) > 60
  · rw [show okSuite l m = false by simp [okSuite, show ¬ l.length ≤ 60 by omega]]
    exact evPos h2 no
  refine evNeg h2 ?_
  by_cases h3 : (m.length : Int) < 1
  · rw [show okSuite l m = false by simp [okSuite, show ¬ 1 ≤ m.length by omega]]
    exact evPos h3 no
  refine evNeg h3 ?_
  by_cases h4 : (m.length : Int) > 6
  · rw [show okSuite l m = false by simp [okSuite, show ¬ m.length ≤ 6 by omega]]
    exact evPos h4 no
  refine evNeg h4 (Ev.bind (all_spec m m.length 1 60 (by omega)) ?_)
  rw [show (decide ((m.length : Int) = (m.length : Int)) && m.all fun x => inS x 1 60) = m.all fun x => inS x 1 60 by simp]
  have e : okSuite l m = ((m.all fun x => inS x 1 60) && suf l m.length 0) := by
    simp [okSuite, show 1 ≤ l.length by omega, show l.length ≤ 60 by omega, show 1 ≤ m.length by omega, show m.length ≤ 6 by omega]
  rw [e]
  by_cases h5 : (m.all fun x => inS x 1 60) = true
  · rw [h5, Bool.true_and]
    refine Ev.step (fun k => ?_) (suite_spec_l0 l m (by omega) (by omega) ha)
    simp only [spec_SuiteOk.j0]
    rfl
  · rw [Bool.not_eq_true] at h5
    rw [h5]
    exact no

theorem suite_impl (l : List S78) (m : List Int) (hm : m.length ≤ 1048576) (ha : ∀ x ∈ l, x.f0.length ≤ 1048576) : Ev (fun k => impl_SuiteOk.f k l m) (okSuite l m) := by
  simp only [impl_SuiteOk.f, in_s, Option.bind_some]
  have no : Ev (fun k => impl_SuiteOk.j0 k true l m) false := Ev_succ fun k => by simp only [impl_SuiteOk.j0]; rfl
  by_cases h1 : inS (l.length : Int) 1 60 = true
  · refine evPos h1 ?_
    have h1' := (inS_iff _ _ _).mp h1
    by_cases h3 : inS (m.length : Int) 1 6 = true
    · have h3' := (inS_iff _ _ _).mp h3
      refine evPos h3 (Ev.bind (all_impl m m.length 1 60 (by omega)) ?_)
      rw [show (decide ((m.length : Int) = (m.length : Int)) && m.all fun x => inS x 1 60) = m.all fun x => inS x 1 60 by simp]
      have e : okSuite l m = ((m.all fun x => inS x 1 60) && suf l m.length 0) := by
        simp [okSuite, show 1 ≤ l.length by omega, show l.length ≤ 60 by omega, show 1 ≤ m.length by omega, show m.length ≤ 6 by omega]
      rw [e]
      by_cases h5 : (m.all fun x => inS x 1 60) = true
      · rw [h5, Bool.true_and]
        refine Ev.step (fun k => ?_) (suite_impl_l0 l m (by omega) (by omega) ha)
        simp only [impl_SuiteOk.j0]
        rfl
      · rw [Bool.not_eq_true] at h5
        rw [h5]
        exact no
    · rw [show okSuite l m = false by
        rw [← Bool.not_eq_true]
        intro h
        simp [okSuite] at h
        exact h3 ((inS_iff _ _ _).mpr (by omega))]
      exact evNeg h3 no
  · rw [show okSuite l m = false by
      rw [← Bool.not_eq_true]
      intro h
      simp [okSuite] at h
      exact h1 ((inS_iff _ _ _).mpr (by omega))]
    exact evNeg h1 no

/-! the law's own helpers -/
def convT (x : S90) : S78 := ⟨x.f0, x.f1, x.f2, x.f3⟩
theorem toTaskS_ev (l : List S90) (h : l.length ≤ 1048576) (ha : ∀ x ∈ l, x.f0.length ≤ 1048576) : Ev (fun k => laws_toTaskS.f k l) (l.map convT) := by
  simp only [laws_toTaskS.f]
  refine evPos (by omega) (evPos (by simp; omega) ?_)
  have main : ∀ t j, l.length - j = t → j ≤ l.length → Ev (fun k => laws_toTaskS.l0 k l (mixed (l.map convT) (List.replicate l.length z78) j) (j : Int)) (l.map convT) := by
    intro t
    induction t with
    | zero =>
      intro j h1 h2
      obtain rfl : j = l.length := by omega
      refine Ev_succ fun k => ?_
      simp only [laws_toTaskS.l0]
      have hm := mixed_all (l.map convT) (List.replicate l.length z78) (by simp)
      rw [List.length_map] at hm
      rw [if_neg (by omega), hm]
    | succ t ih =>
      intro j h1 h2
      have hj : j < l.length := by omega
      have haj : (l.getD j z90).f0.length ≤ 1048576 := by
        rw [List.getD_eq_getElem?_getD, List.getElem?_eq_getElem hj]; exact ha _ (List.getElem_mem hj)
      obtain ⟨K, hK⟩ := ih (j + 1) (by omega) (by omega)
      obtain ⟨K2, hK2⟩ := toInt64S_ev _ haj
      refine ⟨max K K2 + 1, fun k hk => ?_⟩
      obtain ⟨k, rfl⟩ : ∃ q, k = q + 1 := ⟨k - 1, by omega⟩
      have hK := hK k (by omega)
      have hK2 := hK2 k (by omega)
      simp only [laws_toTaskS.l0] at hK hK2 ⊢
      rw [if_pos (by omega), if_pos (by omega), show rd_T90 l (j : Int) = l.getD j z90 by simp [rd_T90]]
      simp only [laws_toTask.f, hK2, Option.bind_some]
      rw [if_pos (by rw [mixed_length _ _ _ (by simp)]; simp; omega), up1 (by omega), Int.toNat_natCast, ← hK]
      have hm := mixed_set (l.map convT) (List.replicate l.length z78) z78 j (by simp) (by simpa using hj)
      rw [← hm]
      congr 2
      simp [convT, List.getD_eq_getElem?_getD, hj]
  have := main _ 0 rfl (by omega)
  simpa [mixed_zero] using this

theorem eqTaskS_ev (l : List S78) (h : l.length ≤ 1048576) (ha : ∀ x ∈ l, x.f0.length ≤ 1048576) : Ev (fun k => laws_eqTaskS.f k l l) true := by
  simp only [laws_eqTaskS.f]
  refine evPos trivial ?_
  have main : ∀ t j, l.length - j = t → j ≤ l.length → Ev (fun k => laws_eqTaskS.l0 k l l (j : Int)) true := by
    intro t
    induction t with
    | zero =>
      intro j h1 h2
      obtain rfl : j = l.length := by omega
      refine Ev_succ fun k => ?_
      simp only [laws_eqTaskS.l0]
      rw [if_neg (by omega)]
    | succ t ih =>
      intro j h1 h2
      have hj : j < l.length := by omega
      have haj : (l.getD j z78).f0.length ≤ 1048576 := by
        rw [List.getD_eq_getElem?_getD, List.getElem?_eq_getElem hj]; exact ha _ (List.getElem_mem hj)
      obtain ⟨K, hK⟩ := ih (j + 1) (by omega) (by omega)
      obtain ⟨K2, hK2⟩ := eqInt64S_ev (l.getD j z78).f0 (by omega)
      refine ⟨max K K2 + 1, fun k hk => ?_⟩
      obtain ⟨k, rfl⟩ : ∃ q, k = q + 1 := ⟨k - 1, by omega⟩
      have hK := hK k (by omega)
      have hK2 := hK2 k (by omega)
      simp only [laws_eqTaskS.l0, rdT78] at hK hK2 ⊢
      rw [if_pos (by omega), if_pos (by omega), if_pos (by omega)]
      simp only [laws_eqTask.f, hK2, Option.bind_some, if_pos]
      rw [up1 (by omega)]
      exact hK
  exact main _ 0 rfl (by omega)

theorem szTask_eq (x : S90) (n : Int) (h0 : 0 ≤ n) (hn : n ≤ 1048576) (hl : x.f0.length ≤ 9223372036854775807) :
    laws_szTask.f x.f0 x.f1 x.f2 x.f3 n = some (if (x.f0.length : Int) ≤ n then n - x.f0.length else -1) := by
  unfold laws_szTask.f laws_szInt64S.f
  rw [w64 (x := n - (x.f0.length : Int)) (by omega) (by omega)]
  by_cases h : n - (x.f0.length : Int) < 0
  · rw [if_pos h, Option.bind_some, if_pos (by omega), if_neg (by omega)]
  · rw [if_neg h, Option.bind_some, if_neg h, if_pos (by omega)]

/-- What is left of the allowance, or a sign that it did not reach. -/
theorem szTaskS_ev (l : List S90) (n : Int) (h0 : 0 ≤ n) (hn : n ≤ 1048576) (hl : l.length ≤ 9223372036854775807) (ha : ∀ x ∈ l, x.f0.length ≤ 9223372036854775807) :
    ∃ r, Ev (fun k => laws_szTaskS.f k l n) r ∧ (r < 0 ∨ (0 ≤ r ∧ r ≤ 1048576 ∧ l.length ≤ 1048576 ∧ ∀ x ∈ l, x.f0.length ≤ 1048576)) := by
  simp only [laws_szTaskS.f]
  rw [w64 (x := n - (l.length : Int)) (by omega) (by omega)]
  by_cases h : n - (l.length : Int) < 0
  · exact ⟨-1, evPos h (Ev.now _), .inl (by omega)⟩
  · have main : ∀ t j (a : Int), l.length - j = t → j ≤ l.length → 0 ≤ a → a ≤ 1048576 → (∀ i, i < j → (l.getD i z90).f0.length ≤ 1048576) →
        ∃ r, Ev (fun k => laws_szTaskS.l0 k l a (j : Int)) r ∧ (r < 0 ∨ (0 ≤ r ∧ r ≤ 1048576 ∧ ∀ i, i < l.length → (l.getD i z90).f0.length ≤ 1048576)) := by
      intro t
      induction t with
      | zero =>
        intro j a h1 h2 h3 h4 h5
        obtain rfl : j = l.length := by omega
        refine ⟨a, Ev_succ fun k => ?_, .inr ⟨h3, h4, h5⟩⟩
        simp only [laws_szTaskS.l0]
        rw [if_neg (by omega)]
      | succ t ih =>
        intro j a h1 h2 h3 h4 h5
        have hj : j < l.length := by omega
        have haj : (l.getD j z90).f0.length ≤ 9223372036854775807 := by
          rw [List.getD_eq_getElem?_getD, List.getElem?_eq_getElem hj]; exact ha _ (List.getElem_mem hj)
        have e := szTask_eq (l.getD j z90) a h3 h4 haj
        have hrd : rd_T90 l (j : Int) = l.getD j z90 := by simp [rd_T90]
        by_cases hc : ((l.getD j z90).f0.length : Int) ≤ a
        · rw [if_pos hc] at e
          obtain ⟨r, hr, hq⟩ := ih (j + 1) (a - (l.getD j z90).f0.length) (by omega) (by omega) (by omega) (by omega) (fun i hi => by
            by_cases hij : i < j
            · exact h5 i hij
            · obtain rfl : i = j := by omega
              omega)
          refine ⟨r, Ev.step (fun k => ?_) hr, hq⟩
          simp only [laws_szTaskS.l0, hrd]
          rw [if_pos (by omega), if_pos (by omega), e, Option.bind_some, if_neg (by omega), up1 (by omega)]
        · rw [if_neg hc] at e
          refine ⟨-1, Ev_succ fun k => ?_, .inl (by omega)⟩
          simp only [laws_szTaskS.l0, hrd]
          rw [if_pos (by omega), if_pos (by omega), e, Option.bind_some, if_pos (by omega)]
    obtain ⟨r, hr, hq⟩ := main _ 0 (n - l.length) rfl (by omega) (by omega) (by omega) (fun i hi => by omega)
    refine ⟨r, evNeg h hr, ?_⟩
    rcases hq with hq | ⟨q1, q2, q3⟩
    · exact .inl hq
    · refine .inr ⟨q1, q2, by omega, fun x hx => ?_⟩
      obtain ⟨i, hi, rfl⟩ := List.mem_iff_getElem.mp hx
      have := q3 i hi
      rwa [List.getD_eq_getElem?_getD, List.getElem?_eq_getElem hi] at this

theorem FnExactSuiteOk : laws_FnExactSuiteOk.Pure := by
  intro l m hl ha hm
  refine Ev.rounds ?_
  simp only [laws_FnExactSuiteOk.f]
  obtain ⟨r, hr, hq⟩ := szTaskS_ev l 1048576 (by omega) (by omega) hl ha
  rcases hq with hq | ⟨q1, q2, q3, q4⟩
  · have : Ev (fun k => laws_szSuite.f k l m 1048576) (-1) := by
      simp only [laws_szSuite.f]
      exact Ev.bind hr (evPos hq (Ev.now _))
    exact Ev.bind this (evPos (by decide) (Ev.now _))
  · by_cases h2 : r - (m.length : Int) < 0
    · have : Ev (fun k => laws_szSuite.f k l m 1048576) (-1) := by
        simp only [laws_szSuite.f]
        refine Ev.bind hr (evNeg (by omega) ?_)
        have e : laws_szInt64S.f m r = some (-1) := by
          unfold laws_szInt64S.f
          rw [w64 (by omega) (by omega), if_pos h2]
        simp only [e, Option.bind_some]
        exact evPos (by decide) (Ev.now _)
      exact Ev.bind this (evPos (by decide) (Ev.now _))
    · have : Ev (fun k => laws_szSuite.f k l m 1048576) (r - m.length) := by
        simp only [laws_szSuite.f]
        refine Ev.bind hr (evNeg (by omega) ?_)
        have e : laws_szInt64S.f m r = some (r - m.length) := by
          unfold laws_szInt64S.f
          rw [w64 (by omega) (by omega), if_neg h2]
        simp only [e, Option.bind_some]
        exact evNeg h2 (Ev.now _)
      refine Ev.bind this (evNeg h2 ?_)
      have hm' : m.length ≤ 1048576 := by omega
      have hto : Ev (fun k => laws_toSuite.f k l m) (l.map convT, m) := by
        simp only [laws_toSuite.f]
        exact Ev.bind (toTaskS_ev l q3 q4) (Ev.bind (toInt64S_ev m hm') (Ev.now _))
      have hb : ∀ x ∈ l.map convT, x.f0.length ≤ 1048576 := by
        intro x hx
        obtain ⟨y, hy, rfl⟩ := List.mem_map.mp hx
        exact q4 y hy
      have heq : Ev (fun k => laws_eqSuite.f k (l.map convT) m (l.map convT) m) true := by
        simp only [laws_eqSuite.f]
        exact Ev.bind (eqTaskS_ev _ (by simpa using q3) hb) (evPos rfl (Ev.bind (eqInt64S_ev m (by omega)) (evPos rfl (Ev.now _))))
      refine Ev.bind hto (Ev.bind (suite_spec _ m hm' hb) (Ev.bind hto (Ev.bind (suite_impl _ m hm' hb) ?_)))
      refine evNeg (by simp) (Ev.bind hto (Ev.bind heq (evPos rfl (Ev.now _))))

end Go.Proofs.Ytcdghhihfjojaaa.Pure
