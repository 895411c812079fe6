/- The plain statement of the law FnExactLevels: program and reference refuse the same limits, and tell the same levels; no condition. -/
import Derived.Test.YteobnbichpadjabI64
import Derived.Test.YteobnbichpadjabInAll
import Derived.Test.YteobnbichpadjabQx10
import Derived.Test.YteobnbichpadjabQx11
import Derived.Test.YteobnbichpadjabQx12
import Derived.Test.YteobnbichpadjabQx16
import Derived.Test.YteobnbichpadjabQx3
import Derived.Test.YteobnbichpadjabQx4
import Derived.Test.YteobnbichpadjabQx5
import Derived.Test.YteobnbichpadjabQx6
set_option linter.unusedVariables false
set_option linter.unusedSimpArgs false
namespace Go.Proofs.Yteobnbichpadjab.Pure
open Go.RowKit Go.Proofs.Yteobnbichpadjab.Q Go.Proofs.Yteobnbichpadjab.Gen Go.Proofs.YteobnbichpadjabW.PrintWords Go.Proofs.YteobnbichpadjabW.PrintMore

theorem down1 {j : Nat} (h0 : 0 < j) (h : j < 4611686018427387904) : wrap64 ((j : Int) - 1) = ((j - 1 : Nat) : Int) := by unfold wrap64; omega

/-- The highest of the first i limits that x comes to. -/
def top (l : List Int) (x : Int) : Nat → Nat
  | 0 => 0
  | i + 1 => if l.getD i 0 ≤ x then i + 1 else top l x i
theorem top_le (l : List Int) (x : Int) : ∀ i, top l x i ≤ i := by
  intro i
  induction i with
  | zero => exact Nat.le_refl _
  | succ i ih => unfold top; split <;> omega
theorem top_spec (l : List Int) (x : Int) (h : l.length ≤ 1048576) : Ev (fun k => spec_l22Top.f k l x) ((top l x l.length : Nat) : Int) := by
  simp only [spec_l22Top.f]
  have main : ∀ t j, j + t = l.length → Ev (fun k => spec_l22Top.l0 k l x ((top l x j : Nat) : Int) (j : Int)) ((top l x l.length : Nat) : Int) := by
    intro t
    induction t with
    | zero =>
      intro j hj
      obtain rfl : j = l.length := by omega
      exact Ev.step (fun k => spec_l22Top.l0.eq_2 _ _ _ _ k) (evNeg (by omega) (Ev.now _))
    | succ t ih =>
      intro j hj
      have IH := ih (j + 1) (by omega)
      rw [show top l x (j + 1) = if l.getD j 0 ≤ x then j + 1 else top l x j from rfl] at IH
      refine Ev.step (fun k => spec_l22Top.l0.eq_2 _ _ _ _ k) (evPos (by omega) (evPos (by omega) ?_))
      rw [rd_nat, up1 (by omega)]
      by_cases c : l.getD j 0 ≤ x
      · rw [if_pos c] at IH
        exact evPos c IH
      · rw [if_neg c] at IH
        exact evNeg c IH
  exact main l.length 0 (by omega)
theorem top_impl (l : List Int) (x : Int) (h : l.length ≤ 1048576) : Ev (fun k => impl_Levels_1.f k l x [(l.length : Int)]) ((top l x l.length : Nat) : Int) := by
  simp only [impl_Levels_1.f]
  refine evPos (by simp) ?_
  have r0 : rd [(l.length : Int)] 0 = (l.length : Int) := rfl
  rw [r0]
  have main : ∀ j, j ≤ l.length → Ev (fun k => impl_Levels_1.l0 k l x (j : Int)) ((top l x j : Nat) : Int) := by
    intro j
    induction j with
    | zero =>
      intro _
      exact Ev.step (fun k => impl_Levels_1.l0.eq_2 _ _ _ k) (evNeg (by omega) (Ev.now _))
    | succ j ih =>
      intro hj
      have IH := ih (by omega)
      refine Ev.step (fun k => impl_Levels_1.l0.eq_2 _ _ _ k) (evPos (by omega) ?_)
      rw [down1 (by omega) (by omega)]
      refine evPos (by omega) (evPos (by omega) ?_)
      unfold top
      rw [Nat.add_sub_cancel, rd_nat]
      by_cases c : l.getD j 0 ≤ x
      · rw [if_pos c]
        exact evPos c (Ev.now _)
      · rw [if_neg c]
        exact evNeg c IH
  exact main l.length (Nat.le_refl _)

theorem series_both (s : List Int) (hs : s.length ≤ 1048576) : ∃ b : Bool, Ev (fun k => spec_l19Ok.f k s) b ∧ Ev (fun k => impl_seriesOk.f k s) b ∧ (b = true → s.length ≤ 500) := by
  simp only [spec_l19Ok.f, impl_seriesOk.f, in_s, Option.bind_some]
  by_cases c1 : s.length ≥ 1
  · by_cases c2 : s.length ≤ 500
    · refine ⟨_, evPos (by omega) (evPos (by omega) (Ev.bind (all_spec s _ _ _ (by omega)) (Ev.now _))), evPos ((inS_iff _ _ _).2 (by omega)) (Ev.bind (all_impl s _ _ _ (by omega)) (Ev.now _)), fun _ => c2⟩
    · exact ⟨false, evPos (by omega) (evNeg (by omega) (Ev.now _)), evNeg (fun h => by rw [inS_iff] at h; omega) (Ev.now _), fun h => by cases h⟩
  · exact ⟨false, evNeg (by omega) (Ev.now _), evNeg (fun h => by rw [inS_iff] at h; omega) (Ev.now _), fun h => by cases h⟩

theorem run_both (s on off : List Int) (h : Int) (hs : s.length ≤ 500) (h1 : on.length ≤ 5) (h2 : off.length = on.length) : ∀ t j (lv : Nat) (c : Int) (o : List Int), j + t = s.length → lv ≤ on.length → o.length = j →
    ∃ r : List Int, Ev (fun k => spec_Levels.l0 k s on off h o (lv : Int) c (j : Int)) (r, true) ∧ Ev (fun k => impl_Levels.l1 k on off h (lv : Int) c o s (s.length : Int) (j : Int) (on.length : Int)) (r, true) ∧ r.length ≤ 1048576 := by
  intro t
  induction t with
  | zero =>
    intro j lv c o hj hl ho
    exact ⟨o, Ev.step (fun k => spec_Levels.l0.eq_2 _ _ _ _ _ _ _ _ k) (evNeg (by omega) (Ev.now _)), Ev.step (fun k => impl_Levels.l1.eq_2 _ _ _ _ _ _ _ _ _ _ k) (evNeg (by omega) (Ev.now _)), by omega⟩
  | succ t ih =>
    intro j lv c o hj hl ho
    have ho2 : o.length < 17592186044416 := by omega
    have u := up1 (j := j) (by omega)
    replace u := Aside0.mk u
    generalize hx : rd s (j : Int) = x
    have Ts := top_spec on x (by omega)
    have Ti := top_impl on x (by omega)
    have Fs := top_spec off x (by omega)
    have Fi : Ev (fun k => impl_Levels_1.f k off x [(on.length : Int)]) ((top off x off.length : Nat) : Int) := by
      have q := top_impl off x (by omega)
      rw [h2] at q ⊢
      exact q
    have tl := top_le on x on.length
    have fl := top_le off x off.length
    by_cases c1 : ((top on x on.length : Nat) : Int) > (lv : Int)
    · obtain ⟨r, hs', hi', hr⟩ := ih (j + 1) (top on x on.length) 0 (o ++ [((top on x on.length : Nat) : Int)]) (by omega) tl (by simp; omega)
      refine ⟨r, Ev.step (fun k => spec_Levels.l0.eq_2 _ _ _ _ _ _ _ _ k) (evPos (by omega) (evPos (by omega) ?_)), Ev.step (fun k => impl_Levels.l1.eq_2 _ _ _ _ _ _ _ _ _ _ k) (evPos (by omega) (evPos (by omega) (evPos (by omega) ?_))), hr⟩
      · rw [hx, u.out]
        exact Ev.bind Ts (evPos c1 (Ev.bind Ts (evPos ho2 hs')))
      · rw [hx, u.out]
        exact Ev.bind Ti (evPos c1 (evPos ho2 hi'))
    · -- the level stays, or falls behind enough of them
      have J : ∀ b : Bool, ∃ r : List Int, Ev (fun k => spec_Levels.j2 k s on off h o (lv : Int) c (j : Int) x b) (r, true) ∧ Ev (fun k => impl_Levels.j3 k on off h (lv : Int) c o x s (s.length : Int) (j : Int) b (on.length : Int)) (r, true) ∧ r.length ≤ 1048576 := by
        intro b
        cases b with
        | true =>
          by_cases c2 : wrap64 (c + 1) = h
          · obtain ⟨r, hs', hi', hr⟩ := ih (j + 1) (top off x off.length) 0 (o ++ [((top off x off.length : Nat) : Int)]) (by omega) (by omega) (by simp; omega)
            refine ⟨r, Ev.step (fun k => spec_Levels.j2.eq_2 _ _ _ _ _ _ _ _ _ _ k) (evPos rfl (evPos c2 (Ev.bind Fs ?_))), Ev.step (fun k => impl_Levels.j3.eq_2 _ _ _ _ _ _ _ _ _ _ _ _ k) (evPos rfl (evPos c2 (Ev.bind Fi ?_))), hr⟩
            · rw [u.out]; exact evPos ho2 hs'
            · rw [u.out]; exact evPos ho2 hi'
          · obtain ⟨r, hs', hi', hr⟩ := ih (j + 1) lv (wrap64 (c + 1)) (o ++ [(lv : Int)]) (by omega) hl (by simp; omega)
            refine ⟨r, Ev.step (fun k => spec_Levels.j2.eq_2 _ _ _ _ _ _ _ _ _ _ k) (evPos rfl (evNeg c2 ?_)), Ev.step (fun k => impl_Levels.j3.eq_2 _ _ _ _ _ _ _ _ _ _ _ _ k) (evPos rfl (evNeg c2 ?_)), hr⟩
            · rw [u.out]; exact evPos ho2 hs'
            · rw [u.out]; exact evPos ho2 hi'
        | false =>
          obtain ⟨r, hs', hi', hr⟩ := ih (j + 1) lv 0 (o ++ [(lv : Int)]) (by omega) hl (by simp; omega)
          refine ⟨r, Ev.step (fun k => spec_Levels.j2.eq_2 _ _ _ _ _ _ _ _ _ _ k) (evNeg (by decide) ?_), Ev.step (fun k => impl_Levels.j3.eq_2 _ _ _ _ _ _ _ _ _ _ _ _ k) (evNeg (by decide) ?_), hr⟩
          · rw [u.out]; exact evPos ho2 hs'
          · rw [u.out]; exact evPos ho2 hi'
      by_cases c3 : (lv : Int) > 0
      · have d := down1 (j := lv) (by omega) (by omega)
        replace d := Aside0.mk d
        obtain ⟨r, hs', hi', hr⟩ := J (decide (x < rd off ((lv - 1 : Nat) : Int)))
        refine ⟨r, Ev.step (fun k => spec_Levels.l0.eq_2 _ _ _ _ _ _ _ _ k) (evPos (by omega) (evPos (by omega) ?_)), Ev.step (fun k => impl_Levels.l1.eq_2 _ _ _ _ _ _ _ _ _ _ k) (evPos (by omega) (evPos (by omega) (evPos (by omega) ?_))), hr⟩
        · rw [hx, d.out]
          exact Ev.bind Ts (evNeg c1 (evPos c3 (evPos (by omega) (evPos (by omega) hs'))))
        · rw [hx, d.out]
          exact Ev.bind Ti (evNeg c1 (evPos c3 (evPos (by omega) (evPos (by omega) hi'))))
      · obtain ⟨r, hs', hi', hr⟩ := J false
        refine ⟨r, Ev.step (fun k => spec_Levels.l0.eq_2 _ _ _ _ _ _ _ _ k) (evPos (by omega) (evPos (by omega) ?_)), Ev.step (fun k => impl_Levels.l1.eq_2 _ _ _ _ _ _ _ _ _ _ k) (evPos (by omega) (evPos (by omega) (evPos (by omega) ?_))), hr⟩
        · rw [hx]
          exact Ev.bind Ts (evNeg c1 (evNeg c3 hs'))
        · rw [hx]
          exact Ev.bind Ti (evNeg c1 (evNeg c3 hi'))

theorem lim_loop (s on off : List Int) (h : Int) (h1 : on.length ≤ 5) (h2 : off.length = on.length) (X : List Int × Bool) (hX : Ev (fun k => impl_Levels.l1 k on off h 0 0 [] s (s.length : Int) 0 (on.length : Int)) X) :
    ∀ t j, j + t = on.length → ∃ b : Bool, Ev (fun k => spec_l22LimitsOk.l0 k on off (j : Int)) b ∧ Ev (fun k => impl_Levels.l0 k s on off h (on.length : Int) (j : Int) (on.length : Int)) (if b = true then X else ([], false)) := by
  intro t
  induction t with
  | zero =>
    intro j hj
    exact ⟨true, Ev.step (fun k => spec_l22LimitsOk.l0.eq_2 _ _ _ k) (evNeg (by omega) (Ev.now _)), Ev.step (fun k => impl_Levels.l0.eq_2 _ _ _ _ _ _ _ k) (evNeg (by omega) hX)⟩
  | succ t ih =>
    intro j hj
    obtain ⟨b, hs, hi⟩ := ih (j + 1) (by omega)
    have u := up1 (j := j) (by omega)
    replace u := Aside0.mk u
    by_cases c1 : rd off (j : Int) > rd on (j : Int)
    · exact ⟨false, Ev.step (fun k => spec_l22LimitsOk.l0.eq_2 _ _ _ k) (evPos (by omega) (evPos (by omega) (evPos (by omega) (evPos c1 (Ev.now _))))), Ev.step (fun k => impl_Levels.l0.eq_2 _ _ _ _ _ _ _ k) (evPos (by omega) (evPos (by omega) (evPos (by omega) (evPos (by omega) (evPos c1 (Ev.now _))))))⟩
    · by_cases c2 : j = 0
      · refine ⟨b, Ev.step (fun k => spec_l22LimitsOk.l0.eq_2 _ _ _ k) (evPos (by omega) (evPos (by omega) (evPos (by omega) (evNeg c1 (evNeg (by omega) ?_))))), Ev.step (fun k => impl_Levels.l0.eq_2 _ _ _ _ _ _ _ k) (evPos (by omega) (evPos (by omega) (evPos (by omega) (evPos (by omega) (evNeg c1 (evNeg (by omega) ?_))))))⟩
        · rw [u.out]; exact hs
        · rw [u.out]; exact hi
      · have d := down1 (j := j) (by omega) (by omega)
        replace d := Aside0.mk d
        have S0 : ∀ b' : Bool, Ev (fun k => if rd on (j : Int) ≤ rd on ((j - 1 : Nat) : Int) then some false else if rd off (j : Int) < rd off ((j - 1 : Nat) : Int) then some false else spec_l22LimitsOk.l0 k on off ((j + 1 : Nat) : Int)) b' → Ev (fun k => spec_l22LimitsOk.l0 k on off (j : Int)) b' := by
          intro b' hh
          refine Ev.step (fun k => spec_l22LimitsOk.l0.eq_2 _ _ _ k) (evPos (by omega) (evPos (by omega) (evPos (by omega) (evNeg c1 (evPos (by omega) ?_)))))
          rw [u.out, d.out]
          refine evPos (by omega) (evPos (by omega) ?_)
          by_cases q : rd on (j : Int) ≤ rd on ((j - 1 : Nat) : Int)
          · simp only [if_pos q] at hh
            exact evPos q hh
          · simp only [if_neg q] at hh
            exact evNeg q (evPos (by omega) hh)
        have I0 : ∀ b' : List Int × Bool, Ev (fun k => if rd on (j : Int) ≤ rd on ((j - 1 : Nat) : Int) then some (([] : List Int), false) else if rd off (j : Int) < rd off ((j - 1 : Nat) : Int) then some (([] : List Int), false) else impl_Levels.l0 k s on off h (on.length : Int) ((j + 1 : Nat) : Int) (on.length : Int)) b' → Ev (fun k => impl_Levels.l0 k s on off h (on.length : Int) (j : Int) (on.length : Int)) b' := by
          intro b' hh
          refine Ev.step (fun k => impl_Levels.l0.eq_2 _ _ _ _ _ _ _ k) (evPos (by omega) (evPos (by omega) (evPos (by omega) (evPos (by omega) (evNeg c1 (evPos (by omega) ?_))))))
          rw [u.out, d.out]
          refine evPos (by omega) (evPos (by omega) ?_)
          by_cases q : rd on (j : Int) ≤ rd on ((j - 1 : Nat) : Int)
          · simp only [if_pos q] at hh
            exact evPos q hh
          · simp only [if_neg q] at hh
            exact evNeg q (evPos (by omega) hh)
        by_cases c3 : rd on (j : Int) ≤ rd on ((j - 1 : Nat) : Int)
        · exact ⟨false, S0 _ (evPos c3 (Ev.now _)), I0 _ (evPos c3 (Ev.now _))⟩
        · by_cases c4 : rd off (j : Int) < rd off ((j - 1 : Nat) : Int)
          · exact ⟨false, S0 _ (evNeg c3 (evPos c4 (Ev.now _))), I0 _ (evNeg c3 (evPos c4 (Ev.now _)))⟩
          · exact ⟨b, S0 _ (evNeg c3 (evNeg c4 hs)), I0 _ (evNeg c3 (evNeg c4 hi))⟩

theorem levels_both (s on off : List Int) (h : Int) (h0 : s.length ≤ 1048576) (h1 : on.length ≤ 1048576) (h2 : off.length ≤ 1048576) : ∃ r : List Int × Bool, Ev (fun k => spec_Levels.f k s on off h) r ∧ Ev (fun k => impl_Levels.f k s on off h) r ∧ r.1.length ≤ 1048576 := by
  simp only [spec_Levels.f, impl_Levels.f, in_s, Option.bind_some]
  have noS : Ev (fun k => spec_Levels.j0 k s on off h [] true) ([], false) := Ev.step (fun k => spec_Levels.j0.eq_2 _ _ _ _ _ _ k) (evPos rfl (Ev.now _))
  have noI : Ev (fun k => impl_Levels.j0 k s on off h true (on.length : Int)) ([], false) := Ev.step (fun k => impl_Levels.j0.eq_2 _ _ _ _ _ _ k) (evPos rfl (Ev.now _))
  have noL : Ev (fun k => spec_l22LimitsOk.j0 k on off true) false := Ev.step (fun k => spec_l22LimitsOk.j0.eq_2 _ _ _ k) (evPos rfl (Ev.now _))
  obtain ⟨b, bs, bi, hb⟩ := series_both s h0
  cases b with
  | false => exact ⟨([], false), Ev.bind bs (evNeg (by decide) noS), Ev.bind bi (evNeg (by decide) noI), Nat.zero_le _⟩
  | true =>
    have hs5 := hb rfl
    have bad : ∀ {L : Nat → Option Bool}, Ev L false → Ev (fun k => (L k).bind fun t118 => (spec_Levels.j0 k s on off h [] (!t118))) ([], false) := fun hL => Ev.bind hL noS
    by_cases c1 : inS (on.length : Int) 1 5 = true
    rotate_left
    · refine ⟨([], false), Ev.bind bs (evPos rfl (bad ?_)), Ev.bind bi (evPos rfl (evNeg c1 noI)), Nat.zero_le _⟩
      simp only [spec_l22LimitsOk.f]
      by_cases q : on.length < 1
      · exact evPos (by omega) noL
      · refine evNeg (by omega) (evPos ?_ noL)
        have : ¬ (on.length : Int) ≤ 5 := fun q2 => c1 ((inS_iff _ _ _).2 ⟨by omega, q2⟩)
        omega
    have d1 := (inS_iff _ _ _).1 c1
    have A1 := all_spec on (on.length : Int) (-100000) 100000 (by omega)
    have A2 := all_impl on (on.length : Int) (-100000) 100000 (by omega)
    have B1 := all_spec off (on.length : Int) (-100000) 100000 (by omega)
    have B2 := all_impl off (on.length : Int) (-100000) 100000 (by omega)
    generalize (decide ((on.length : Int) = (on.length : Int)) && on.all fun x => inS x (-100000) 100000) = q1 at A1 A2
    have hq2 : (decide ((off.length : Int) = (on.length : Int)) && off.all fun x => inS x (-100000) 100000) = true → off.length = on.length := by
      intro q
      rw [Bool.and_eq_true, decide_eq_true_eq] at q
      omega
    generalize (decide ((off.length : Int) = (on.length : Int)) && off.all fun x => inS x (-100000) 100000) = q2 at B1 B2 hq2
    have L0 : ∀ r : Bool, Ev (fun k => if q1 = true then (if q2 = true then (spec_l22LimitsOk.j0 k on off (!(inS h 1 100))) else spec_l22LimitsOk.j0 k on off true) else spec_l22LimitsOk.j0 k on off true) r → Ev (fun k => spec_l22LimitsOk.f k on off h) r := by
      intro r hr
      simp only [spec_l22LimitsOk.f, l2In_s, Option.bind_some]
      refine evNeg (by omega) (evNeg (by omega) (Ev.bind A1 ?_))
      cases q1 with
      | false => exact hr
      | true =>
        refine evPos rfl (Ev.bind B1 ?_)
        cases q2 with
        | false => exact hr
        | true => exact hr
    cases q1 with
    | false => exact ⟨([], false), Ev.bind bs (evPos rfl (bad (L0 _ (evNeg (by decide) noL)))), Ev.bind bi (evPos rfl (evPos c1 (Ev.bind A2 (evNeg (by decide) noI)))), Nat.zero_le _⟩
    | true =>
      cases q2 with
      | false => exact ⟨([], false), Ev.bind bs (evPos rfl (bad (L0 _ (evPos rfl (evNeg (by decide) noL))))), Ev.bind bi (evPos rfl (evPos c1 (Ev.bind A2 (evPos rfl (Ev.bind B2 (evNeg (by decide) noI)))))), Nat.zero_le _⟩
      | true =>
        have hlen := hq2 rfl
        cases c5 : inS h 1 100 with
        | false =>
          refine ⟨([], false), Ev.bind bs (evPos rfl (bad (L0 _ (evPos rfl (evPos rfl ?_))))), Ev.bind bi (evPos rfl (evPos c1 (Ev.bind A2 (evPos rfl (Ev.bind B2 (evPos rfl ?_)))))), Nat.zero_le _⟩
          · rw [c5]; exact noL
          · exact noI
        | true =>
          obtain ⟨r, rs, ri, hr⟩ := run_both s on off h hs5 (by omega) hlen s.length 0 0 0 [] (by omega) (Nat.zero_le _) rfl
          obtain ⟨b, ls, li⟩ := lim_loop s on off h (by omega) hlen (r, true) ri on.length 0 (by omega)
          have LS : Ev (fun k => spec_l22LimitsOk.f k on off h) b := L0 _ (evPos rfl (evPos rfl (by rw [c5]; exact Ev.step (fun k => spec_l22LimitsOk.j0.eq_2 _ _ _ k) (evNeg (by decide) ls))))
          refine ⟨if b = true then (r, true) else ([], false), Ev.bind bs (evPos rfl (Ev.bind LS ?_)), Ev.bind bi (evPos rfl (evPos c1 (Ev.bind A2 (evPos rfl (Ev.bind B2 (evPos rfl (Ev.step (fun k => impl_Levels.j0.eq_2 _ _ _ _ _ _ k) (evNeg (by decide) li)))))))), ?_⟩
          · cases b with
            | true => exact Ev.step (fun k => spec_Levels.j0.eq_2 _ _ _ _ _ _ k) (evNeg (by decide) rs)
            | false => exact noS
          · cases b with
            | true => exact hr
            | false => exact Nat.zero_le _

theorem FnExactLevels : laws_FnExactLevels.Pure := by
  intro e a tt h _ _ _ _ _ _ _ _ _ _
  refine Ev.rounds ?_
  simp only [laws_FnExactLevels.f]
  by_cases h0 : e.length ≤ 1048576
  rotate_left
  · exact evPos (by omega) (Ev.now _)
  refine evNeg (by omega) ?_
  by_cases h1 : a.length ≤ 1048576
  rotate_left
  · exact evPos (by omega) (Ev.now _)
  refine evNeg (by omega) ?_
  by_cases h2 : tt.length ≤ 1048576
  rotate_left
  · exact evPos (by omega) (Ev.now _)
  obtain ⟨r, hs, hi, hr⟩ := levels_both e a tt h h0 h1 h2
  refine evNeg (by first | omega | (simp; omega) | simp) ?_
  refine Ev.bind (toInt64S_ev _ (by first | assumption | omega | (simp; omega))) ?_
  refine Ev.bind (toInt64S_ev _ (by first | assumption | omega | (simp; omega))) ?_
  refine Ev.bind (toInt64S_ev _ (by first | assumption | omega | (simp; omega))) ?_
  refine Ev.bind hs ?_
  refine Ev.bind (toInt64S_ev _ (by first | assumption | omega | (simp; omega))) ?_
  refine Ev.bind (toInt64S_ev _ (by first | assumption | omega | (simp; omega))) ?_
  refine Ev.bind (toInt64S_ev _ (by first | assumption | omega | (simp; omega))) ?_
  refine Ev.bind hi ?_
  refine Ev.bind (eqInt64S_ev _ (by first | assumption | omega | (simp; omega))) ?_
  refine evPos (by first | rfl | trivial | simp) ?_
  refine Ev.step (fun k => laws_FnExactLevels.j0.eq_2 _ _ _ _ _ _ _ _ _ _ _ _ k) ?_
  refine evNeg (by simp) ?_
  refine Ev.bind (toInt64S_ev _ (by first | assumption | omega | (simp; omega))) ?_
  refine Ev.bind (eqInt64S_ev _ (by first | assumption | omega | (simp; omega))) ?_
  refine evPos (by first | rfl | trivial | simp) ?_
  refine Ev.bind (toInt64S_ev _ (by first | assumption | omega | (simp; omega))) ?_
  refine Ev.bind (eqInt64S_ev _ (by first | assumption | omega | (simp; omega))) ?_
  refine evPos (by first | rfl | trivial | simp) ?_
  refine Ev.bind (toInt64S_ev _ (by first | assumption | omega | (simp; omega))) ?_
  refine Ev.bind (eqInt64S_ev _ (by first | assumption | omega | (simp; omega))) ?_
  refine evPos (by first | rfl | trivial | simp) ?_
  first | refine Ev.bind (markInt64S_ev _ 1 (by first | omega | (simp; omega)) (by omega)) ?_ | refine Ev.bind (markInt64S_ev _ _ (by first | omega | (simp; omega)) (by omega)) ?_
  first | refine Ev.bind (markInt64S_ev _ 1 (by first | omega | (simp; omega)) (by omega)) ?_ | refine Ev.bind (markInt64S_ev _ _ (by first | omega | (simp; omega)) (by omega)) ?_
  first | refine Ev.bind (markInt64S_ev _ 1 (by first | omega | (simp; omega)) (by omega)) ?_ | refine Ev.bind (markInt64S_ev _ _ (by first | omega | (simp; omega)) (by omega)) ?_
  refine evNeg (by first | omega | (simp; omega) | simp) ?_
  refine Ev.bind (eqInt64S_ev _ (by first | assumption | omega | (simp; omega))) ?_
  refine evPos (by first | rfl | trivial | simp) ?_
  refine Ev.step (fun k => laws_FnExactLevels.j1.eq_2 _ _ _ _ _ _ _ _ k) ?_
  refine evNeg (by simp) ?_
  first | refine Ev.bind (markInt64S_ev _ 1 (by first | omega | (simp; omega)) (by omega)) ?_ | refine Ev.bind (markInt64S_ev _ _ (by first | omega | (simp; omega)) (by omega)) ?_
  refine Ev.bind (heldInt64S_ev _ 1 (by omega) (by omega)) ?_
  refine evNeg (by first | omega | (simp; omega) | simp) ?_
  refine evPos (by first | rfl | trivial | simp) ?_
  refine Ev.bind (toInt64S_ev _ (by first | assumption | omega | (simp; omega))) ?_
  refine Ev.bind (toInt64S_ev _ (by first | assumption | omega | (simp; omega))) ?_
  refine Ev.bind (toInt64S_ev _ (by first | assumption | omega | (simp; omega))) ?_
  refine Ev.bind hi ?_
  refine Ev.bind (eqInt64S_ev _ (by first | assumption | omega | (simp; omega))) ?_
  refine evPos (by first | rfl | trivial | simp) ?_
  refine Ev.step (fun k => laws_FnExactLevels.j2.eq_2 _ _ _ k) ?_
  refine evNeg (by simp) ?_
  refine Ev.bind (heldInt64S_ev _ 1 (by omega) (by omega)) ?_
  refine evNeg (by first | omega | (simp; omega) | simp) ?_
  refine evPos (by first | rfl | trivial | simp) ?_
  exact Ev.now _
end Go.Proofs.Yteobnbichpadjab.Pure
