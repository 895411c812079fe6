/- The plain statement of the law FnExactPlanOk: program and reference hold the same plans right, for all tables; no condition. -/
import Derived.Test.YtcdghhihfjojaaaI64
import Derived.Test.YtcdghhihfjojaaaInS
import Derived.Test.YtcdghhihfjojaaaTElem
import Derived.Test.YtcdghhihfjojaaaQx10
import Derived.Test.YtcdghhihfjojaaaQx11
import Derived.Test.YtcdghhihfjojaaaQx12
import Derived.Test.YtcdghhihfjojaaaQx13
import Derived.Test.YtcdghhihfjojaaaQx14
import Derived.Test.YtcdghhihfjojaaaQx15
import Derived.Test.YtcdghhihfjojaaaQx19
import Derived.Test.YtcdghhihfjojaaaQx2
import Derived.Test.YtcdghhihfjojaaaQx3
import Derived.Test.YtcdghhihfjojaaaQx4
import Derived.Test.YtcdghhihfjojaaaQx5
import Derived.Test.YtcdghhihfjojaaaQx6
set_option linter.unusedVariables false
set_option linter.unusedSimpArgs false
namespace Go.Proofs.Ytcdghhihfjojaaa.Pure
open Go.RowKit Go.Proofs.Ytcdghhihfjojaaa.Q Go.Proofs.Ytcdghhihfjojaaa.Gen Go.Proofs.YtcdghhihfjojaaaW.PrintWords Go.Proofs.YtcdghhihfjojaaaW.PrintMore

/-! the table -/
def wid (e : S61) : Bool := inS e.f1 1 32 && inS e.f2 (-10) 10 && inS e.f3 (-1000000000) 1000000000
theorem rest_s (x0 : List S61) (x3 : Int) (e : S61) (R : Bool) (h0 : ∀ y, y = true → Ev (fun k => spec_l7TableOk.j1 k x0 x3 y) false) (h1 : Ev (fun k => spec_l7TableOk.j1 k x0 x3 false) R) :
    Ev (fun k => (spec_l2In.f e.f1 1 32).bind fun t105 => (if t105 = true then ((spec_l2In.f e.f2 (-10) 10).bind fun t106 => (if t106 = true then ((spec_l2In.f e.f3 (-1000000000) 1000000000).bind fun t107 => (spec_l7TableOk.j1 k x0 x3 (!t107))) else (spec_l7TableOk.j1 k x0 x3 true))) else (spec_l7TableOk.j1 k x0 x3 true))) (wid e && R) := by
  unfold wid
  simp only [l2In_s]
  refine Ev.bind (Ev.now _) ?_
  cases inS e.f1 1 32
  · exact evNeg (by decide) (h0 _ rfl)
  refine evPos rfl (Ev.bind (Ev.now _) ?_)
  cases inS e.f2 (-10) 10
  · exact evNeg (by decide) (h0 _ rfl)
  refine evPos rfl (Ev.bind (Ev.now _) ?_)
  cases inS e.f3 (-1000000000) 1000000000
  · exact h0 _ rfl
  · exact h1
theorem rest_i (x0 x8 : List S61) (x9 x10 : Int) (e : S61) (R : Bool) (h0 : ∀ y, y = true → Ev (fun k => impl_tableOk.j1 k x0 x8 x9 x10 y) false) (h1 : Ev (fun k => impl_tableOk.j1 k x0 x8 x9 x10 false) R) :
    Ev (fun k => (impl_in.f e.f1 1 32).bind fun t105 => (if t105 = true then ((impl_in.f e.f2 (-10) 10).bind fun t106 => (if t106 = true then ((impl_in.f e.f3 (-1000000000) 1000000000).bind fun t107 => (impl_tableOk.j1 k x0 x8 x9 x10 (!t107))) else (impl_tableOk.j1 k x0 x8 x9 x10 true))) else (impl_tableOk.j1 k x0 x8 x9 x10 true))) (wid e && R) := by
  unfold wid
  simp only [in_s]
  refine Ev.bind (Ev.now _) ?_
  cases inS e.f1 1 32
  · exact evNeg (by decide) (h0 _ rfl)
  refine evPos rfl (Ev.bind (Ev.now _) ?_)
  cases inS e.f2 (-10) 10
  · exact evNeg (by decide) (h0 _ rfl)
  refine evPos rfl (Ev.bind (Ev.now _) ?_)
  cases inS e.f3 (-1000000000) 1000000000
  · exact h0 _ rfl
  · exact h1
theorem table_both (l : List S61) : ∃ b, Ev (fun k => spec_l7TableOk.f k l) b ∧ Ev (fun k => impl_tableOk.f k l) b := by
  simp only [spec_l7TableOk.f, impl_tableOk.f]
  by_cases hl : l.length ≤ 200
  rotate_left
  · exact ⟨false, evPos (by omega) (Ev.now _), evPos (by omega) (Ev.now _)⟩
  have main : ∀ t j, j + t = l.length → ∃ b, Ev (fun k => spec_l7TableOk.l0 k l (j : Int)) b ∧ Ev (fun k => impl_tableOk.l0 k l l (l.length : Int) (j : Int)) b := by
    intro t
    induction t with
    | zero =>
      intro j hj
      exact ⟨true, Ev.step (fun k => spec_l7TableOk.l0.eq_2 _ _ k) (evNeg (by omega) (Ev.now _)), Ev.step (fun k => impl_tableOk.l0.eq_2 _ _ _ _ k) (evNeg (by omega) (Ev.now _))⟩
    | succ t ih =>
      intro j hj
      obtain ⟨R, r1, r2⟩ := ih (j + 1) (by omega)
      have s0 : ∀ y, y = true → Ev (fun k => spec_l7TableOk.j1 k l (j : Int) y) false := fun y hy => Ev.step (fun k => spec_l7TableOk.j1.eq_2 _ _ _ k) (evPos hy (Ev.now _))
      have i0 : ∀ y, y = true → Ev (fun k => impl_tableOk.j1 k l l (l.length : Int) (j : Int) y) false := fun y hy => Ev.step (fun k => impl_tableOk.j1.eq_2 _ _ _ _ _ k) (evPos hy (Ev.now _))
      have s1 : Ev (fun k => spec_l7TableOk.j1 k l (j : Int) false) R := by
        refine Ev.step (fun k => spec_l7TableOk.j1.eq_2 _ _ _ k) (evNeg (by decide) ?_)
        rw [up1 (by omega)]
        exact r1
      have i1 : Ev (fun k => impl_tableOk.j1 k l l (l.length : Int) (j : Int) false) R := by
        refine Ev.step (fun k => impl_tableOk.j1.eq_2 _ _ _ _ _ k) (evNeg (by decide) ?_)
        rw [up1 (by omega)]
        exact r2
      have rs := rest_s l (j : Int) (rd_T61 l (j : Int)) R s0 s1
      have ri := rest_i l l (l.length : Int) (j : Int) (rd_T61 l (j : Int)) R i0 i1
      cases hc : inS (rd_T61 l (j : Int)).f0 1 99999 with
      | false =>
        refine ⟨false, Ev.step (fun k => spec_l7TableOk.l0.eq_2 _ _ k) (evPos (by omega) (evPos (by omega) ?_)), Ev.step (fun k => impl_tableOk.l0.eq_2 _ _ _ _ k) (evPos (by omega) (evPos (by omega) (evPos (by omega) ?_)))⟩
        · rw [l2In_s, hc]
          exact Ev.bind (Ev.now _) (evNeg (by decide) (s0 _ rfl))
        · rw [in_s, hc]
          exact Ev.bind (Ev.now _) (evNeg (by decide) (i0 _ rfl))
      | true =>
        by_cases h0 : j = 0
        · refine ⟨wid (rd_T61 l (j : Int)) && R, Ev.step (fun k => spec_l7TableOk.l0.eq_2 _ _ k) (evPos (by omega) (evPos (by omega) ?_)), Ev.step (fun k => impl_tableOk.l0.eq_2 _ _ _ _ k) (evPos (by omega) (evPos (by omega) (evPos (by omega) ?_)))⟩
          · rw [l2In_s, hc]
            exact Ev.bind (Ev.now _) (evPos rfl (evNeg (by omega) rs))
          · rw [in_s, hc]
            exact Ev.bind (Ev.now _) (evPos rfl (evNeg (by omega) ri))
        · have hw : wrap64 ((j : Int) - 1) = ((j - 1 : Nat) : Int) := by unfold wrap64; omega
          by_cases hp : (rd_T61 l (j : Int)).f0 ≤ (rd_T61 l ((j - 1 : Nat) : Int)).f0
          · refine ⟨false, Ev.step (fun k => spec_l7TableOk.l0.eq_2 _ _ k) (evPos (by omega) (evPos (by omega) ?_)), Ev.step (fun k => impl_tableOk.l0.eq_2 _ _ _ _ k) (evPos (by omega) (evPos (by omega) (evPos (by omega) ?_)))⟩
            · rw [l2In_s, hc, hw]
              exact Ev.bind (Ev.now _) (evPos rfl (evPos (by omega) (evPos (by omega) (evPos (by omega) (evPos hp (s0 _ rfl))))))
            · rw [in_s, hc, hw]
              exact Ev.bind (Ev.now _) (evPos rfl (evPos (by omega) (evPos (by omega) (evPos (by omega) (evPos hp (i0 _ rfl))))))
          · refine ⟨wid (rd_T61 l (j : Int)) && R, Ev.step (fun k => spec_l7TableOk.l0.eq_2 _ _ k) (evPos (by omega) (evPos (by omega) ?_)), Ev.step (fun k => impl_tableOk.l0.eq_2 _ _ _ _ k) (evPos (by omega) (evPos (by omega) (evPos (by omega) ?_)))⟩
            · rw [l2In_s, hc, hw]
              exact Ev.bind (Ev.now _) (evPos rfl (evPos (by omega) (evPos (by omega) (evPos (by omega) (evNeg hp rs)))))
            · rw [in_s, hc, hw]
              exact Ev.bind (Ev.now _) (evPos rfl (evPos (by omega) (evPos (by omega) (evPos (by omega) (evNeg hp ri)))))
  obtain ⟨b, h1, h2⟩ := main l.length 0 (by omega)
  exact ⟨b, evNeg (by omega) h1, evNeg (by omega) h2⟩

/-! an element by its code -/
theorem elem_both (l : List S61) (hl : l.length ≤ 1048576) (c : Int) : ∃ p, Ev (fun k => spec_l7Elem.f k l c) p ∧ Ev (fun k => impl_elemOf.f k l c) p := by
  simp only [spec_l7Elem.f, impl_elemOf.f]
  have main : ∀ t j, j + t = l.length → ∃ p, Ev (fun k => spec_l7Elem.l0 k l c (j : Int)) p ∧ Ev (fun k => impl_elemOf.l0 k c l (l.length : Int) (j : Int)) p := by
    intro t
    induction t with
    | zero =>
      intro j hj
      exact ⟨(0, 0, 0, 0, false), Ev.step (fun k => spec_l7Elem.l0.eq_2 _ _ _ k) (evNeg (by omega) (Ev.now _)), Ev.step (fun k => impl_elemOf.l0.eq_2 _ _ _ _ k) (evNeg (by omega) (Ev.now _))⟩
    | succ t ih =>
      intro j hj
      obtain ⟨p, h1, h2⟩ := ih (j + 1) (by omega)
      by_cases hc : (rd_T61 l (j : Int)).f0 = c
      · exact ⟨_, Ev.step (fun k => spec_l7Elem.l0.eq_2 _ _ _ k) (evPos (by omega) (evPos (by omega) (evPos hc (Ev.now _)))), Ev.step (fun k => impl_elemOf.l0.eq_2 _ _ _ _ k) (evPos (by omega) (evPos (by omega) (evPos (by omega) (evPos hc (Ev.now _)))))⟩
      · refine ⟨p, Ev.step (fun k => spec_l7Elem.l0.eq_2 _ _ _ k) (evPos (by omega) (evPos (by omega) (evNeg hc ?_))), Ev.step (fun k => impl_elemOf.l0.eq_2 _ _ _ _ k) (evPos (by omega) (evPos (by omega) (evPos (by omega) (evNeg hc ?_))))⟩
        · rw [up1 (by omega)]; exact h1
        · rw [up1 (by omega)]; exact h2
  exact main l.length 0 (by omega)

/-! the plan -/
theorem wadd (a b : Nat) (h : a ≤ 2000000) (h' : b ≤ 2000000) : wrap64 ((a : Int) + (b : Int)) = ((a + b : Nat) : Int) := by unfold wrap64; omega
theorem wnat (a : Nat) (h : a ≤ 2000000) : wrap64 (a : Int) = (a : Int) := by unfold wrap64; omega
theorem w100 (d : Int) (h : 101000 ≤ d) (h' : d < 200000) : wrap64 (d - 100000) = d - 100000 := by unfold wrap64; omega
theorem reps_s (d : Int) : impl_repeats.f d = some (if inS d 101000 199999 = true then (Int.tdiv (d - 100000) 1000, Int.tmod d 1000) else (0, 0)) := by
  unfold impl_repeats.f
  rw [in_s, Option.bind_some]
  by_cases h : inS d 101000 199999 = true
  · rw [if_pos h, if_pos h]
    rw [inS_iff] at h
    have e : Int.tdiv (d - 100000) 1000 = (d - 100000) / 1000 := Int.tdiv_eq_ediv_of_nonneg (by omega)
    rw [w64 (x := d - 100000) (by omega) (by omega), w64 (by omega) (by omega)]
  · rw [if_neg h, if_neg h]
theorem inS_no {a b c : Int} (h : ¬ (b ≤ a ∧ a ≤ c)) : inS a b c = false := by
  cases hh : inS a b c with
  | false => rfl
  | true => rw [inS_iff] at hh; exact absurd hh h
theorem plan_both (l : List S61) (hl : l.length ≤ 1048576) : ∀ (n : Nat) (p : List Int), p.length ≤ n → p.length ≤ 1048576 → ∃ b, Ev (fun k => spec_l7Fits.f k l p) b ∧ Ev (fun k => impl_planOk.f k l p) b := by
  intro n
  induction n with
  | zero =>
    intro p h1 h2
    exact ⟨true, Ev.step (fun k => spec_l7Fits.f.eq_2 _ _ k) (Ev.step (fun k => spec_l7Fits.l0.eq_2 _ _ _ k) (evNeg (by omega) (Ev.now _))), Ev.step (fun k => impl_planOk.f.eq_2 _ _ k) (Ev.step (fun k => impl_planOk.l0.eq_2 _ _ _ k) (evNeg (by omega) (Ev.now _)))⟩
  | succ n IH =>
    intro p h1 h2
    have main : ∀ t j, p.length - j ≤ t → ∃ b, Ev (fun k => spec_l7Fits.l0 k l p (j : Int)) b ∧ Ev (fun k => impl_planOk.l0 k l p (j : Int)) b := by
      intro t
      induction t with
      | zero =>
        intro j hj
        exact ⟨true, Ev.step (fun k => spec_l7Fits.l0.eq_2 _ _ _ k) (evNeg (by omega) (Ev.now _)), Ev.step (fun k => impl_planOk.l0.eq_2 _ _ _ k) (evNeg (by omega) (Ev.now _))⟩
      | succ t ih =>
        intro j hj
        by_cases hjl : j < p.length
        rotate_left
        · exact ⟨true, Ev.step (fun k => spec_l7Fits.l0.eq_2 _ _ _ k) (evNeg (by omega) (Ev.now _)), Ev.step (fun k => impl_planOk.l0.eq_2 _ _ _ k) (evNeg (by omega) (Ev.now _))⟩
        obtain ⟨R, r1, r2⟩ := ih (j + 1) (by omega)
        obtain ⟨d, hd⟩ : ∃ d, rd p (j : Int) = d := ⟨_, rfl⟩
        obtain ⟨q, q1, q2⟩ := elem_both l hl d
        have up := up1 (j := j) (by omega)
        -- the program's way where nothing is repeated
        have iEnd : ∀ y b, (y = true → b = R) → (y = false → b = (if q.2.2.2.2 = true then (if inS d 1 99999 = true then R else false) else false)) → Ev (fun k => impl_planOk.j1 k l p (j : Int) d y) b := by
          intro y b hy hn
          refine Ev.step (fun k => impl_planOk.j1.eq_2 _ _ _ _ _ k) ?_
          rw [up]
          cases y with
          | true => rw [hy rfl]; exact evPos rfl r2
          | false =>
            rw [hn rfl]
            refine evNeg (by decide) (Ev.bind q2 ?_)
            cases q.2.2.2.2
            · exact evNeg (by decide) (Ev.now _)
            · rw [in_s]
              refine evPos rfl (Ev.bind (Ev.now _) ?_)
              cases inS d 1 99999
              · exact evNeg (by decide) (Ev.now _)
              · exact evPos rfl r2
        have iNo : ∀ b, inS d 101000 199999 = false → (∀ y, y = (inS d 201000 201255 || inS d 202000 202255) → Ev (fun k => impl_planOk.j1 k l p (j : Int) d y) b) → Ev (fun k => impl_planOk.l0 k l p (j : Int)) b := by
          intro b h0 hy
          refine Ev.step (fun k => impl_planOk.l0.eq_2 _ _ _ k) (evPos (by omega) (evPos (by omega) ?_))
          rw [hd, reps_s, h0, if_neg (by decide)]
          refine Ev.bind (Ev.now _) (evNeg (by show ¬ (0 : Int) > 0; decide) ?_)
          rw [in_s]
          refine Ev.bind (Ev.now _) ?_
          cases hc : inS d 201000 201255 with
          | true => exact evPos rfl (hy true (by rw [hc]; rfl))
          | false =>
            rw [in_s]
            exact evNeg (by decide) (Ev.bind (Ev.now _) (hy _ (by rw [hc]; rfl)))
        have sGo : ∀ b, (if decide (1 ≤ d) = true then decide (d < 100000) else false) = false → Ev (fun k => if d ≥ 101000 then (spec_l7Fits.j2 k l p (j : Int) d (decide (d < 200000))) else (spec_l7Fits.j2 k l p (j : Int) d false)) b → Ev (fun k => spec_l7Fits.l0 k l p (j : Int)) b := by
          intro b hc h
          refine Ev.step (fun k => spec_l7Fits.l0.eq_2 _ _ _ k) (evPos (by omega) (evPos (by omega) ?_))
          rw [hd]
          by_cases c : 1 ≤ d
          · rw [decide_eq_true c, if_pos rfl] at hc
            refine evPos c ?_
            rw [hc]
            exact Ev.step (fun k => spec_l7Fits.j1.eq_2 _ _ _ _ _ k) (evNeg (by decide) h)
          · exact evNeg c (Ev.step (fun k => spec_l7Fits.j1.eq_2 _ _ _ _ _ k) (evNeg (by decide) h))
        have sLast : ∀ b, ¬ (101000 ≤ d ∧ d < 200000) → (201000 ≤ d ∧ d < 203000 → b = (if Int.tmod d 1000 > 255 then false else R)) → (¬ (201000 ≤ d ∧ d < 203000) → b = false) → Ev (fun k => if d ≥ 101000 then (spec_l7Fits.j2 k l p (j : Int) d (decide (d < 200000))) else (spec_l7Fits.j2 k l p (j : Int) d false)) b := by
          intro b hno hy hn
          have j3 : ∀ y, y = decide (201000 ≤ d ∧ d < 203000) → Ev (fun k => spec_l7Fits.j3 k l p (j : Int) d y) b := by
            intro y hyy
            refine Ev.step (fun k => spec_l7Fits.j3.eq_2 _ _ _ _ _ k) ?_
            rw [up]
            by_cases c : 201000 ≤ d ∧ d < 203000
            · rw [decide_eq_true c] at hyy
              rw [hy c]
              refine evPos hyy ?_
              by_cases c2 : Int.tmod d 1000 > 255
              · rw [if_pos c2]; exact evPos c2 (Ev.now _)
              · rw [if_neg c2]; exact evNeg c2 r1
            · rw [decide_eq_false c] at hyy
              rw [hn c]
              exact evNeg (by rw [hyy]; decide) (Ev.now _)
          have j2 : Ev (fun k => spec_l7Fits.j2 k l p (j : Int) d false) b := by
            refine Ev.step (fun k => spec_l7Fits.j2.eq_2 _ _ _ _ _ k) (evNeg (by decide) ?_)
            by_cases c : 201000 ≤ d
            · refine evPos c (j3 _ ?_)
              rw [decide_eq_decide]
              exact ⟨fun h => ⟨c, h⟩, fun h => h.2⟩
            · exact evNeg c (j3 false (decide_eq_false (fun h => c h.1)).symm)
          by_cases c : 101000 ≤ d
          · refine evPos c ?_
            rw [decide_eq_false (by omega : ¬ d < 200000)]
            exact j2
          · exact evNeg c j2
        by_cases c1 : 1 ≤ d ∧ d < 100000
        · -- an element
          refine ⟨if q.2.2.2.2 = true then R else false, ?_, ?_⟩
          · refine Ev.step (fun k => spec_l7Fits.l0.eq_2 _ _ _ k) (evPos (by omega) (evPos (by omega) ?_))
            rw [hd]
            refine evPos c1.1 ?_
            rw [decide_eq_true c1.2]
            refine Ev.step (fun k => spec_l7Fits.j1.eq_2 _ _ _ _ _ k) (evPos rfl (Ev.bind q1 ?_))
            rw [up]
            cases q.2.2.2.2
            · exact evNeg (by decide) (Ev.now _)
            · exact evPos rfl r1
          · refine iNo _ (inS_no (by omega)) (fun y hy => iEnd y _ ?_ ?_)
            · intro h
              rw [hy, inS_no (by omega), inS_no (by omega)] at h
              cases h
            · intro _
              rw [(inS_iff d 1 99999).2 ⟨by omega, by omega⟩]
              cases q.2.2.2.2 <;> rfl
        have cN : (if decide (1 ≤ d) = true then decide (d < 100000) else false) = false := by
          by_cases c : 1 ≤ d
          · rw [decide_eq_true c, if_pos rfl]; exact decide_eq_false (fun h => c1 ⟨c, h⟩)
          · rw [decide_eq_false c]; rfl
        by_cases c2 : 101000 ≤ d ∧ d < 200000
        · -- a repeat
          have e1 : Int.tdiv (d - 100000) 1000 = (d - 100000) / 1000 := Int.tdiv_eq_ediv_of_nonneg (by omega)
          obtain ⟨x, hx⟩ : ∃ x : Nat, (d - 100000) / 1000 = (x : Int) := ⟨((d - 100000) / 1000).toNat, by omega⟩
          rw [hx] at e1
          have hx1 : 1 ≤ x ∧ x ≤ 99 := by omega
          have xb : x ≤ 2000000 := Nat.le_trans hx1.2 (by decide)
          have jb : j ≤ 2000000 := Nat.le_trans (Nat.le_of_lt hjl) (Nat.le_trans h2 (by decide))
          have jb1 : j + 1 ≤ 2000000 := Nat.le_trans hjl (Nat.le_trans h2 (by decide))
          have jxb : j + x < 4611686018427387904 := Nat.lt_of_le_of_lt (Nat.add_le_add jb xb) (by decide)
          have hrep : impl_repeats.f d = some ((x : Int), Int.tmod d 1000) := by
            rw [reps_s, (inS_iff d 101000 199999).2 ⟨by omega, by omega⟩, if_pos rfl, e1]
          have spec1 : ∀ b, Ev (fun k => (if (Int.tmod d 1000) > 255 then (some false) else (if ((j + x : Nat) : Int) ≥ (p.length : Int) then (some false) else (if 0 ≤ ((j + 1 : Nat) : Int) then (if ((j + 1 : Nat) : Int) ≤ ((j + 1 + x : Nat) : Int) then (if ((j + 1 + x : Nat) : Int) ≤ (p.length : Int) then ((spec_l7Fits.f k l ((p.take (j + 1 + x)).drop (j + 1))).bind fun t122 => (if t122 = true then (spec_l7Fits.l0 k l p ((j + x + 1 : Nat) : Int)) else (some false))) else (none)) else (none)) else (none))))) b → Ev (fun k => spec_l7Fits.l0 k l p (j : Int)) b := by
            intro b h
            refine sGo b cN (evPos c2.1 ?_)
            rw [decide_eq_true c2.2]
            refine Ev.step (fun k => spec_l7Fits.j2.eq_2 _ _ _ _ _ k) (evPos rfl ?_)
            rw [w100 d c2.1 c2.2, e1, wnat x xb, up, wadd j x jb xb, wadd (j + 1) x jb1 xb, up1 jxb, Int.toNat_natCast, Int.toNat_natCast]
            exact h
          have impl1 : ∀ b, Ev (fun k => (if (Int.tmod d 1000) > 255 then (some false) else (if ((j + 1 + x : Nat) : Int) > (p.length : Int) then (some false) else (if 0 ≤ ((j + 1 : Nat) : Int) then (if ((j + 1 : Nat) : Int) ≤ ((j + 1 + x : Nat) : Int) then (if ((j + 1 + x : Nat) : Int) ≤ (p.length : Int) then ((impl_planOk.f k l ((p.take (j + 1 + x)).drop (j + 1))).bind fun t160 => (if t160 = true then (impl_planOk.l0 k l p ((j + x + 1 : Nat) : Int)) else (some false))) else (none)) else (none)) else (none))))) b → Ev (fun k => impl_planOk.l0 k l p (j : Int)) b := by
            intro b h
            refine Ev.step (fun k => impl_planOk.l0.eq_2 _ _ _ k) (evPos (by omega) (evPos (by omega) ?_))
            rw [hd, hrep]
            refine Ev.bind (Ev.now _) (evPos (show (x : Int) > 0 by omega) ?_)
            rw [up]
            rw [wadd j x jb xb, wadd (j + 1) x jb1 xb, up1 jxb, Int.toNat_natCast, Int.toNat_natCast]
            exact h
          by_cases c3 : Int.tmod d 1000 > 255
          · exact ⟨false, spec1 _ (evPos c3 (Ev.now _)), impl1 _ (evPos c3 (Ev.now _))⟩
          by_cases c4 : j + x ≥ p.length
          · exact ⟨false, spec1 _ (evNeg c3 (evPos (by omega) (Ev.now _))), impl1 _ (evNeg c3 (evPos (by omega) (Ev.now _)))⟩
          have f0 : j + 1 + x ≤ p.length := by rw [Nat.add_right_comm]; exact Nat.lt_of_not_le c4
          have f1 : ¬ ((j + x : Nat) : Int) ≥ (p.length : Int) := Int.not_le.2 (Int.ofNat_lt.2 (Nat.lt_of_not_le c4))
          have f2 : (0 : Int) ≤ ((j + 1 : Nat) : Int) := Int.natCast_nonneg _
          have f3 : ((j + 1 : Nat) : Int) ≤ ((j + 1 + x : Nat) : Int) := Int.ofNat_le.2 (Nat.le_add_right _ _)
          have f4 : ((j + 1 + x : Nat) : Int) ≤ (p.length : Int) := Int.ofNat_le.2 f0
          have f5 : ¬ ((j + 1 + x : Nat) : Int) > (p.length : Int) := Int.not_lt.2 f4
          have f6 : ((p.take (j + 1 + x)).drop (j + 1)).length = x := by rw [List.length_drop, List.length_take, Nat.min_eq_left f0, Nat.add_sub_cancel_left]
          have f7 : x ≤ n := by
            clear hrep e1 hx hd up
            omega
          have f8 : x ≤ 1048576 := Nat.le_trans hx1.2 (by decide)
          have f9 : p.length - (j + x + 1) ≤ t := by
            clear hrep e1 hx hd up
            omega
          obtain ⟨b, b1, b2⟩ := IH ((p.take (j + 1 + x)).drop (j + 1)) (by rw [f6]; exact f7) (by rw [f6]; exact f8)
          obtain ⟨R', r1', r2'⟩ := ih (j + x + 1) f9
          refine ⟨if b = true then R' else false, spec1 _ (evNeg c3 (evNeg f1 (evPos f2 (evPos f3 (evPos f4 (Ev.bind b1 ?_)))))), impl1 _ (evNeg c3 (evNeg f5 (evPos f2 (evPos f3 (evPos f4 (Ev.bind b2 ?_))))))⟩
          · cases b
            · exact evNeg (by decide) (Ev.now _)
            · exact evPos rfl r1'
          · cases b
            · exact evNeg (by decide) (Ev.now _)
            · exact evPos rfl r2'
        · have hno : inS d 101000 199999 = false := inS_no (by omega)
          have hnoE : inS d 1 99999 = false := inS_no (by omega)
          by_cases c3 : 201000 ≤ d ∧ d < 203000
          · have em : Int.tmod d 1000 = d % 1000 := Int.tmod_eq_emod_of_nonneg (by omega)
            refine ⟨if Int.tmod d 1000 > 255 then false else R, sGo _ cN (sLast _ c2 (fun _ => rfl) (fun h => absurd c3 h)), iNo _ hno (fun y hy => iEnd y _ ?_ ?_)⟩
            · intro h
              rw [hy, Bool.or_eq_true, inS_iff, inS_iff] at h
              rw [if_neg (by omega)]
            · intro h
              rw [hy, Bool.or_eq_false_iff] at h
              have n1 : ¬ (201000 ≤ d ∧ d ≤ 201255) := fun hh => by rw [(inS_iff _ _ _).2 hh] at h; cases h.1
              have n2 : ¬ (202000 ≤ d ∧ d ≤ 202255) := fun hh => by rw [(inS_iff d 202000 202255).2 hh] at h; cases h.2
              rw [if_pos (by omega), hnoE]
              cases q.2.2.2.2 <;> rfl
          · refine ⟨false, sGo _ cN (sLast _ c2 (fun h => absurd h c3) (fun _ => rfl)), iNo _ hno (fun y hy => iEnd y _ ?_ ?_)⟩
            · intro h
              rw [hy, inS_no (by omega), inS_no (by omega)] at h
              cases h
            · intro _
              rw [hnoE]
              cases q.2.2.2.2 <;> rfl
    obtain ⟨b, b1, b2⟩ := main p.length 0 (by omega)
    exact ⟨b, Ev.step (fun k => spec_l7Fits.f.eq_2 _ _ k) b1, Ev.step (fun k => impl_planOk.f.eq_2 _ _ k) b2⟩

theorem FnExactPlanOk : laws_FnExactPlanOk.Pure := by
  intro l0 l1 h0 h1
  refine Ev.rounds ?_
  simp only [laws_FnExactPlanOk.f]
  by_cases hp : l1.length ≤ 1048576
  rotate_left
  · exact evPos (by omega) (Ev.now _)
  refine evNeg (by omega) ?_
  by_cases hl : l0.length ≤ 1048576
  rotate_left
  · exact Ev.bind (szElemS_big l0 h0 hl) (evPos (by decide) (Ev.now _))
  have hm : (l0.map convElem).length ≤ 1048576 := by rw [List.length_map]; exact hl
  have both : ∃ b, Ev (fun k => spec_PlanOk.f k (l0.map convElem) l1) b ∧ Ev (fun k => impl_PlanOk.f k (l0.map convElem) l1) b := by
    obtain ⟨t, t1, t2⟩ := table_both (l0.map convElem)
    obtain ⟨b, b1, b2⟩ := plan_both (l0.map convElem) hm l1.length l1 (Nat.le_refl _) hp
    simp only [spec_PlanOk.f, impl_PlanOk.f]
    cases t with
    | false => exact ⟨false, Ev.bind t1 (evNeg (by decide) (Ev.now _)), Ev.bind t2 (evNeg (by decide) (Ev.now _))⟩
    | true =>
      by_cases c : l1.length ≤ 100
      · exact ⟨b, Ev.bind t1 (evPos rfl (evPos (by omega) (Ev.bind b1 (Ev.now _)))), Ev.bind t2 (evPos rfl (evPos (by omega) (Ev.bind b2 (Ev.now _))))⟩
      · exact ⟨false, Ev.bind t1 (evPos rfl (evNeg (by omega) (Ev.now _))), Ev.bind t2 (evPos rfl (evNeg (by omega) (Ev.now _)))⟩
  obtain ⟨b, hs, hi⟩ := both
  have bb : (b != b) = false := by cases b <;> rfl
  have to1 := toElemS_ev l0 hl
  have to2 := toInt64S_ev l1 hp
  refine Ev.bind (szElemS_ok l0 hl) (evNeg (by omega) (Ev.bind to1 (Ev.bind to2 (Ev.bind hs (Ev.bind to1 (Ev.bind to2 (Ev.bind hi (evNeg (by rw [bb]; decide) ?_))))))))
  exact Ev.bind to1 (Ev.bind (eqElemS_ev _ (by omega)) (evPos rfl (Ev.bind to2 (Ev.bind (eqInt64S_ev _ (by omega)) (evPos rfl (Ev.now _))))))
end Go.Proofs.Ytcdghhihfjojaaa.Pure
