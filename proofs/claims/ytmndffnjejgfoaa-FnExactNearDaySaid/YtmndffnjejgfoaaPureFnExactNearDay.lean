/- The plain statement of the law FnExactNearDay: program and reference find the same time, for all arguments; no condition. -/
import Derived.Test.YtmndffnjejgfoaaNearA
import Derived.Test.YtmndffnjejgfoaaQx15
import Derived.Test.YtmndffnjejgfoaaQx16
import Derived.Test.YtmndffnjejgfoaaQx17
import Derived.Test.YtmndffnjejgfoaaQx18
import Derived.Test.YtmndffnjejgfoaaQx19
import Derived.Test.YtmndffnjejgfoaaQx20
import Derived.Test.YtmndffnjejgfoaaQx21
import Derived.Test.YtmndffnjejgfoaaQx22
import Derived.Test.YtmndffnjejgfoaaQx7
import Derived.Test.YtmndffnjejgfoaaQx9
set_option linter.unusedVariables false
set_option linter.unusedSimpArgs false
namespace Go.Proofs.Ytmndffnjejgfoaa.NearDay
open Go.RowKit Go.Proofs.Ytmndffnjejgfoaa.Q Go.Proofs.Ytmndffnjejgfoaa.Gen Go.Proofs.YtmndffnjejgfoaaW.PrintWords Go.Proofs.YtmndffnjejgfoaaW.PrintMore

theorem l2In_eq (a b c : Int) : spec_l2In.f a b c = some (decide (b ≤ a) && decide (a ≤ c)) := by
  unfold spec_l2In.f; by_cases h : a ≥ b <;> simp [h, show b ≤ a ↔ a ≥ b from Iff.rfl]
theorem in_eq (a b c : Int) : impl_in.f a b c = some (decide (b ≤ a) && decide (a ≤ c)) := by
  unfold impl_in.f; by_cases h : a ≥ b <;> simp [h, show b ≤ a ↔ a ≥ b from Iff.rfl]
theorem isTime_eq (t : Int) : impl_isTime.f t = some (decide (0 ≤ t) && decide (t ≤ 52596000)) := by unfold impl_isTime.f; rw [in_eq]; rfl
theorem l2Time_eq (t : Int) : spec_l2Time.f t = some (decide (0 ≤ t) && decide (t ≤ 52596000)) := by
  unfold spec_l2Time.f; by_cases h : t ≥ 0 <;> simp [h, show 0 ≤ t ↔ t ≥ 0 from Iff.rfl]

/-! the reference's date of a time: its year -/
theorem dateOf_ev (r : Int) (hr : 0 ≤ r) (hr' : r ≤ 52596000) : ∃ q : Int × Int × Int × Int × Int × Bool, Ev (fun k => spec_DateOf.f k r) q ∧ 2000 ≤ q.1 ∧ q.1 ≤ 2100 ∧ D1 q.1 * 1440 ≤ r ∧ r < D1 (q.1 + 1) * 1440 := by
  have hT : spec_l2Time.f r = some true := by rw [l2Time_eq]; simp [hr, hr']
  simp only [spec_DateOf.f, hT, Option.bind_some, if_true]
  have hdiv : wrap64 (Int.tdiv r 1440) = r / 1440 := by rw [Int.tdiv_eq_ediv_of_nonneg hr, w64 (by omega) (by omega)]
  rw [hdiv]
  have h2100 : D1 2100 = 36525 := by decide
  have := loop (fun k (s : Int × Int × Nat) => spec_DateOf.l0 k s.1 s.2.1 ((s.2.2 : Int) + 1) 1 (Int.tmod (wrap64 (Int.tdiv r 60)) 24) (Int.tmod r 60)) (fun s => s.1.toNat)
    (fun s => 0 ≤ s.1 ∧ s.1 + D1 s.2.1 + cum s.2.1 s.2.2 = r / 1440 ∧ s.2.2 < 12 ∧ 2000 ≤ s.2.1 ∧ s.2.1 ≤ 2100 ∧ (s.2.1 = 2100 → s.2.2 = 0))
    (fun q => 2000 ≤ q.1 ∧ q.1 ≤ 2100 ∧ D1 q.1 * 1440 ≤ r ∧ r < D1 (q.1 + 1) * 1440) ?_ (r / 1440, 2000, 0) ⟨by show 0 ≤ r / 1440; omega, by simp [cum, D1], by show 0 < 12; omega, by show (2000 : Int) ≤ 2000; omega, by show (2000 : Int) ≤ 2100; omega, by intro _; rfl⟩
  · obtain ⟨q, h1, h2⟩ := this
    exact ⟨q, h2, h1⟩
  · rintro ⟨x, y, j⟩ ⟨h0, h1, h2, h3, h4, h5⟩
    simp only at h0 h1 h2 h3 h4 h5 ⊢
    have hc := cum_range y j
    have hD := D1_range y h3 (by omega)
    have hm := md_range y ((j : Int) + 1)
    have hmd : spec_l2Days.f y ((j : Int) + 1) = some (md y ((j : Int) + 1)) := by
      refine l2Days_eq y _ (by omega) ?_
      by_cases e : y = 2100
      · have := h5 e; right; omega
      · exact .inl e
    by_cases hlt : x < md y ((j : Int) + 1)
    · left
      refine ⟨(y, (j : Int) + 1, wrap64 (x + 1), Int.tmod (wrap64 (Int.tdiv r 60)) 24, Int.tmod r 60, true), ?_, Ev_succ fun k => ?_⟩
      · refine ⟨h3, h4, by show D1 y * 1440 ≤ r; omega, ?_⟩
        have h6 := cum_mono y (j + 1) 12 (by omega)
        have h7 : cum y (j + 1) = cum y j + md y ((j : Int) + 1) := rfl
        show r < D1 (y + 1) * 1440
        rw [D1_succ]
        omega
      · simp only [spec_DateOf.l0]
        rw [hmd, Option.bind_some, if_neg (by omega)]
    · right
      by_cases hj : j = 11
      · subst hj
        refine ⟨(x - md y 12, y + 1, 0), ?_, ?_, 0, fun k _ => ?_⟩
        · have e1 := D1_succ y
          have e2 : cum y 12 = cum y 11 + md y 12 := rfl
          have e3 : ((11 : Nat) : Int) + 1 = 12 := rfl
          rw [e3] at hlt hm
          refine ⟨by show 0 ≤ x - md y 12; omega, by show x - md y 12 + D1 (y + 1) + 0 = r / 1440; omega, by show 0 < 12; decide, by show 2000 ≤ y + 1; omega, ?_, fun _ => rfl⟩
          show y + 1 ≤ 2100
          by_cases e : y = 2100
          · have := h5 e; omega
          · omega
        · have e3 : ((11 : Nat) : Int) + 1 = 12 := rfl
          rw [e3] at hlt hm
          simp only; omega
        · have e3 : ((11 : Nat) : Int) + 1 = 12 := rfl
          rw [e3] at hlt hmd hm
          simp only [spec_DateOf.l0, e3]
          rw [hmd, Option.bind_some, if_pos (by omega), Option.bind_some, if_pos (by rw [w64 (by omega) (by omega)]; rfl), w64 (by omega) (by omega), w64 (by omega) (by omega)]
          simp
      · refine ⟨(x - md y ((j : Int) + 1), y, j + 1), ?_, by simp only; omega, 0, fun k _ => ?_⟩
        · refine ⟨by simp only; omega, by simp only [cum]; omega, by simp only; omega, h3, h4, ?_⟩
          intro e
          exfalso
          simp only at e
          have e0 := h5 e
          subst e
          subst e0
          simp only [cum, Int.add_zero] at h1
          have : md 2100 (((0 : Nat) : Int) + 1) = 31 := by decide
          omega
        · simp only [spec_DateOf.l0]
          rw [hmd, Option.bind_some, if_pos (by omega), Option.bind_some, w64 (by omega) (by omega), if_neg (by omega), w64 (by omega) (by omega)]
          simp

/-! the reference's time of a date -/
theorem timeOf_l2 (y d h mi x : Int) (j : Nat) (hx : 0 ≤ x) (hx' : x ≤ 40000) (hy : 2000 ≤ y) (hy' : y ≤ 2099) (hj : j < 12) (hd : 1 ≤ d) (hd' : d ≤ 31) (hh : 0 ≤ h) (hh' : h ≤ 23) (hm : 0 ≤ mi) (hm' : mi ≤ 59) :
    Ev (fun k => spec_TimeOf.l2 k x 1 y ((j : Int) + 1) d h mi) (((x + cum y j + d - 1) * 24 + h) * 60 + mi, true) := by
  have := count (fun k i (s : Int) => spec_TimeOf.l2 k s (i + 1) y ((j : Int) + 1) d h mi) j (fun i => x + cum y i) (((x + cum y j + d - 1) * 24 + h) * 60 + mi, true) ?_ ?_ 0 (by omega)
  · simpa [cum] using this
  · intro i hi
    refine ⟨0, fun k _ => ?_⟩
    have hc := cum_range y i
    have hmm := md_range y ((i : Int) + 1)
    simp only [spec_TimeOf.l2]
    rw [if_pos (by omega), l2Days_eq y _ (by omega) (by omega)]
    simp only [Option.bind_some]
    rw [w64 (by omega) (by omega), w64 (by omega) (by omega)]
    simp only [cum]
    rw [show x + cum y i + md y ((i : Int) + 1) = x + (cum y i + md y ((i : Int) + 1)) by omega, show (i : Int) + 1 + 1 = ((i + 1 : Nat) : Int) + 1 by omega]
  · refine Ev_succ fun k => ?_
    have hc := cum_range y j
    simp only [spec_TimeOf.l2]
    rw [if_neg (by omega), w64 (x := x + cum y j + d) (by omega) (by omega), w64 (x := x + cum y j + d - 1) (by omega) (by omega), w64 (x := (x + cum y j + d - 1) * 24) (by omega) (by omega), w64 (x := (x + cum y j + d - 1) * 24 + h) (by omega) (by omega), w64 (x := ((x + cum y j + d - 1) * 24 + h) * 60) (by omega) (by omega), w64 (by omega) (by omega)]

theorem timeOf_l0 (yy mm d h mi : Int) (r : Int × Bool) (hyy : 2000 ≤ yy) (hyy' : yy ≤ 2100) (hl : Ev (fun k => spec_TimeOf.l2 k (D1 yy) 1 yy mm d h mi) r) :
    Ev (fun k => spec_TimeOf.l0 k 0 2000 yy mm d h mi) r := by
  have key : ∀ (n : Nat) (y : Int), (yy - y).toNat = n → 2000 ≤ y → y ≤ yy → Ev (fun k => spec_TimeOf.l0 k (D1 y) y yy mm d h mi) r := by
    intro n
    induction n with
    | zero =>
      intro y h1 h2 h3
      obtain rfl : y = yy := by omega
      refine Ev.step (fun k => ?_) hl
      simp only [spec_TimeOf.l0]
      rw [if_neg (by omega)]
    | succ n ih =>
      intro y h1 h2 h3
      have hD := D1_range y h2 (by omega)
      refine Ev.step (f := fun k => spec_TimeOf.l1 k (D1 y) y 1 yy mm d h mi) (fun k => ?_) ?_
      · simp only [spec_TimeOf.l0]
        rw [if_pos (by omega)]
      · have := count (fun k i (s : Int) => spec_TimeOf.l1 k s y (i + 1) yy mm d h mi) 12 (fun i => D1 y + cum y i) r ?_ ?_ 0 (by omega)
        · simpa [cum] using this
        · intro i hi
          refine ⟨0, fun k _ => ?_⟩
          have hc := cum_range y i
          have hmm := md_range y ((i : Int) + 1)
          simp only [spec_TimeOf.l1]
          rw [if_pos (by omega), l2Days_eq y _ (by omega) (by omega)]
          simp only [Option.bind_some]
          rw [w64 (by omega) (by omega), w64 (by omega) (by omega)]
          simp only [cum]
          rw [show D1 y + cum y i + md y ((i : Int) + 1) = D1 y + (cum y i + md y ((i : Int) + 1)) by omega, show (i : Int) + 1 + 1 = ((i + 1 : Nat) : Int) + 1 by omega]
        · refine Ev.step (f := fun k => spec_TimeOf.l0 k (D1 (y + 1)) (y + 1) yy mm d h mi) (fun k => ?_) (ih (y + 1) (by omega) (by omega) (by omega))
          simp only [spec_TimeOf.l1]
          rw [if_neg (by omega), w64 (by omega) (by omega), D1_succ]
  have := key _ 2000 rfl (by omega) hyy
  simpa [D1] using this

/-- What the reference makes of a day of a month. -/
theorem timeOf_ev (y d h mi : Int) (j : Nat) (hy : 1999 ≤ y) (hy' : y ≤ 2101) (hj : j < 12) (hd : 1 ≤ d) (hd' : d ≤ 31) (hh : 0 ≤ h) (hh' : h ≤ 23) (hm : 0 ≤ mi) (hm' : mi ≤ 59) :
    Ev (fun k => spec_TimeOf.f k y ((j : Int) + 1) d h mi) (if (2000 ≤ y ∧ y ≤ 2099 ∧ d ≤ md y ((j : Int) + 1)) ∨ (y = 2100 ∧ j = 0 ∧ d = 1 ∧ h = 0 ∧ mi = 0) then (((D1 y + cum y j + d - 1) * 24 + h) * 60 + mi, true) else (0, false)) := by
  have hright : spec_l2Right.f y ((j : Int) + 1) d h mi = some (decide ((2000 ≤ y ∧ y ≤ 2099 ∧ d ≤ md y ((j : Int) + 1)) ∨ (y = 2100 ∧ j = 0 ∧ d = 1 ∧ h = 0 ∧ mi = 0))) := by
    unfold spec_l2Right.f
    by_cases e : y = 2100 ∧ j = 0 ∧ d = 1 ∧ h = 0 ∧ mi = 0
    · obtain ⟨rfl, rfl, rfl, rfl, rfl⟩ := e
      simp
    · rw [if_neg (by simp; omega)]
      simp only [l2In_eq, Option.bind_some]
      by_cases h1 : 2000 ≤ y ∧ y ≤ 2099
      · rw [l2Days_eq y _ (by omega) (by omega)]
        simp only [l2In_eq, Option.bind_some, h1.1, h1.2, decide_true, Bool.and_true, if_true, show (1 : Int) ≤ (j : Int) + 1 by omega, show (j : Int) + 1 ≤ 12 by omega, hd, hh, hh', hm, hm', Bool.true_and, true_and, e, or_false]
        by_cases h2 : d ≤ md y ((j : Int) + 1) <;> simp [h2]
      · have : ¬ (decide (2000 ≤ y) && decide (y ≤ 2099)) = true := by simpa using h1
        rw [if_neg this]
        have h3 : ¬ ((2000 ≤ y ∧ y ≤ 2099 ∧ d ≤ md y ((j : Int) + 1)) ∨ (y = 2100 ∧ j = 0 ∧ d = 1 ∧ h = 0 ∧ mi = 0)) := by omega
        simp [h3]
  simp only [spec_TimeOf.f, hright, Option.bind_some]
  by_cases hc : (2000 ≤ y ∧ y ≤ 2099 ∧ d ≤ md y ((j : Int) + 1)) ∨ (y = 2100 ∧ j = 0 ∧ d = 1 ∧ h = 0 ∧ mi = 0)
  · rw [if_pos hc]
    refine evPos (by simpa using hc) ?_
    rcases hc with ⟨h1, h2, h3⟩ | ⟨rfl, rfl, rfl, rfl, rfl⟩
    · have hD := D1_range y h1 (by omega)
      exact timeOf_l0 y _ d h mi _ h1 (by omega) (timeOf_l2 y d h mi (D1 y) j hD.1 hD.2 h1 h2 hj hd hd' hh hh' hm hm')
    · refine timeOf_l0 2100 _ 1 0 0 _ (by omega) (by omega) (Ev_succ fun k => ?_)
      simp only [spec_TimeOf.l2]
      rw [if_neg (by omega), show D1 2100 = 36525 by decide]
      simp [cum, wrap64]
  · rw [if_neg hc]
    refine evNeg (by simpa using hc) (Ev.now _)

/-! the loops -/
theorem dist_w (r t : Int) (h1 : 0 ≤ r) (h2 : r ≤ 52596000) (h3 : 0 ≤ t) (h4 : t ≤ 52596000) : mx (wrap64 (t - r)) (wrap64 (r - t)) = dist r t := by
  rw [w64 (by omega) (by omega), w64 (by omega) (by omega)]; rfl

def encI (o : Option Int) : Int × Bool := (o.getD 0, o.isSome)
def encS (o : Option Int) : Int := o.getD (-1)
def okO (o : Option Int) : Prop := ∀ b, o = some b → 0 ≤ b ∧ b ≤ 52596000

theorem T_w (y d h mi : Int) (j : Nat) (hy : 2000 ≤ y) (hy' : y ≤ 2101) (hj : j < 12) (hd : 1 ≤ d) (hd' : d ≤ 31) (hh : 0 ≤ h) (hh' : h ≤ 24) (hm : 0 ≤ mi) (hm' : mi ≤ 59) :
    wrap64 ((wrap64 ((wrap64 ((D1 y + cum y j + d - 1) * 1440)) + (wrap64 (h * 60)))) + mi) = T d h mi y j := by
  have hc := cum_range y j
  have hD := D1_range y hy (by omega)
  unfold T
  have hN : 0 ≤ D1 y + cum y j + d - 1 ∧ D1 y + cum y j + d - 1 ≤ 50000 := by omega
  rw [w64 (x := (D1 y + cum y j + d - 1) * 1440) (by omega) (by omega), w64 (x := h * 60) (by omega) (by omega), w64 (x := (D1 y + cum y j + d - 1) * 1440 + h * 60) (by omega) (by omega), w64 (by omega) (by omega)]
theorem next_w (j : Nat) (hj : j < 12) : wrap64 ((j : Int) + 1 + 1) = ((j + 1 : Nat) : Int) + 1 := by rw [w64 (by omega) (by omega)]; omega

structure Args (d h mi r : Int) : Prop where
  d1 : 1 ≤ d
  d2 : d ≤ 31
  h1 : 0 ≤ h
  h2 : h ≤ 24
  m1 : 0 ≤ mi
  m2 : mi ≤ 59
  h24 : h = 24 → mi = 0
  r1 : 0 ≤ r
  r2 : r ≤ 52596000

theorem impl_step {d h mi r : Int} (A : Args d h mi r) (y : Int) (j : Nat) (hy : 2000 ≤ y) (hy' : y ≤ 2100) (hj : j < 12) (o : Option Int) (ho : okO o) :
    ∃ K, ∀ k, K ≤ k → impl_NearDay.l1 (k + 1) d h mi r (encI o).1 (encI o).2 y ((j : Int) + 1) = impl_NearDay.l1 k d h mi r (encI (fold r o (cand d h mi y j).toList)).1 (encI (fold r o (cand d h mi y j).toList)).2 y (((j + 1 : Nat) : Int) + 1) := by
  obtain ⟨K, hK0⟩ := daysTo_ev y d j hy hy' hj A.d1 A.d2
  have hK : ∀ k, K ≤ k → impl_daysTo.f k y ((j : Int) + 1) d = some (D1 y + cum y j + d - 1) := hK0
  refine ⟨K, fun k hk => ?_⟩
  simp only [impl_NearDay.l1]
  rw [if_pos (by omega), monthDays_eq y _ (by omega), Option.bind_some]
  have e1 := next_w j hj
  rw [e1]
  by_cases hgt : d > md y ((j : Int) + 1)
  · rw [if_pos hgt]
    have : cand d h mi y j = none := by unfold cand; rw [if_neg (by omega)]
    rw [this]; rfl
  · rw [if_neg hgt, hK k hk, Option.bind_some]
    have eT := T_w y d h mi j hy (by omega) hj A.d1 A.d2 A.h1 A.h2 A.m1 A.m2
    rw [eT, isTime_eq, Option.bind_some]
    by_cases ht : 0 ≤ T d h mi y j ∧ T d h mi y j ≤ 52596000
    · rw [if_pos (by simpa using ht)]
      have hcd : cand d h mi y j = some (T d h mi y j) := by unfold cand; rw [if_pos ⟨hy, hy', by omega, ht⟩]
      rw [hcd]
      cases o with
      | none =>
        rw [if_neg (by decide)]
        rfl
      | some b =>
        have hb := ho b rfl
        rw [if_pos (by rfl)]
        show (if mx (wrap64 (T d h mi y j - r)) (wrap64 (r - T d h mi y j)) < mx (wrap64 (b - r)) (wrap64 (r - b)) then _ else _) = _
        rw [dist_w r _ A.r1 A.r2 ht.1 ht.2, dist_w r b A.r1 A.r2 hb.1 hb.2]
        simp only [Option.toList, fold_cons, fold_nil, pickT]
        by_cases hlt : dist r (T d h mi y j) < dist r b
        · rw [if_pos hlt, if_pos hlt]; rfl
        · rw [if_neg hlt, if_neg hlt]
    · rw [if_neg (by simpa using ht)]
      have hcd : cand d h mi y j = none := by unfold cand; rw [if_neg (fun hh => ht hh.2.2.2)]
      rw [hcd]; rfl

/-- Which days the reference counts. -/
def Cnt (d h mi y : Int) (j : Nat) : Prop := (2000 ≤ y ∧ y ≤ 2099 ∧ d ≤ md y ((j : Int) + 1)) ∨ (y = 2100 ∧ j = 0 ∧ d = 1 ∧ h % 24 = 0 ∧ mi = 0)
instance (d h mi y : Int) (j : Nat) : Decidable (Cnt d h mi y j) := by unfold Cnt; infer_instance
theorem T_2100 (d h mi : Int) (j : Nat) : T d h mi 2100 j = (36525 + cum 2100 j + d - 1) * 1440 + h * 60 + mi := by
  unfold T; rw [show D1 2100 = 36525 by decide]
theorem cand_cnt {d h mi r : Int} (A : Args d h mi r) (y : Int) (j : Nat) (hc : Cnt d h mi y j) : cand d h mi y j = if 0 ≤ T d h mi y j ∧ T d h mi y j ≤ 52596000 then some (T d h mi y j) else none := by
  unfold cand
  have h3 : 2000 ≤ y ∧ y ≤ 2100 ∧ d ≤ md y ((j : Int) + 1) := by
    rcases hc with ⟨a, b, c⟩ | ⟨rfl, rfl, rfl, _, _⟩
    · exact ⟨a, by omega, c⟩
    · exact ⟨by decide, by decide, by decide⟩
  simp only [h3, true_and]
theorem cand_not {d h mi r : Int} (A : Args d h mi r) (y : Int) (j : Nat) (hj : j < 12) (hc : ¬ Cnt d h mi y j) : cand d h mi y j = none := by
  unfold cand
  refine if_neg ?_
  rintro ⟨c1, c2, c3, c4, c5⟩
  refine hc ?_
  by_cases hy : y ≤ 2099
  · exact .inl ⟨c1, hy, c3⟩
  · obtain rfl : y = 2100 := by omega
    rw [T_2100] at c5
    have hr := cum_range 2100 j
    have a1 := A.d1
    have a2 := A.h1
    have a3 := A.m1
    clear c3 c4 hc A
    have h0 : j = 0 := by omega
    subst h0
    simp only [cum] at c5
    exact .inr ⟨rfl, rfl, by omega, by omega, by omega⟩

theorem cnt_T {d h mi r : Int} (A : Args d h mi r) (y : Int) (j : Nat) : ((D1 y + cum y j + d - 1) * 24 + h % 24) * 60 + mi + (if h = 24 then 1440 else 0) = T d h mi y j := by
  have a1 := A.h1
  have a2 := A.h2
  have a3 := A.h24
  unfold T
  clear A
  by_cases e : h = 24
  · subst e; rw [if_pos rfl]; have := a3 rfl; omega
  · rw [if_neg e]; omega

theorem T_range {d h mi r : Int} (A : Args d h mi r) (y : Int) (j : Nat) (hj : j < 12) (hy : 1999 ≤ y) (hy' : y ≤ 2101) : -1000000 ≤ T d h mi y j ∧ T d h mi y j ≤ 100000000 := by
  have hc := cum_range y j
  have a1 := A.d1
  have a2 := A.d2
  have a3 := A.h1
  have a4 := A.h2
  have a5 := A.m1
  have a6 := A.m2
  clear A
  unfold T D1
  omega

/-- One time picked by the reference. -/
theorem spec_pick {d h mi r : Int} (A : Args d h mi r) (k : Nat) (o : Option Int) (ho : okO o) (t : Int) (ht : 0 ≤ t) (ht' : t ≤ 52596000) (y z a b c e f : Int) :
    (if encS o < 0 then spec_NearDay.l1 k d h mi r t y z a b c e f else if mx (wrap64 (t - r)) (wrap64 (r - t)) < mx (wrap64 (encS o - r)) (wrap64 (r - encS o)) then spec_NearDay.l1 k d h mi r t y z a b c e f else spec_NearDay.l1 k d h mi r (encS o) y z a b c e f)
      = spec_NearDay.l1 k d h mi r (encS (fold r o [t])) y z a b c e f := by
  cases o with
  | none => rw [if_pos (by decide)]; rfl
  | some b' =>
    have hb := ho b' rfl
    have e0 : encS (some b') = b' := rfl
    rw [e0, if_neg (by omega), dist_w r t A.r1 A.r2 ht ht', dist_w r b' A.r1 A.r2 hb.1 hb.2]
    simp only [fold_cons, fold_nil, pickT]
    by_cases hlt : dist r t < dist r b'
    · rw [if_pos hlt, if_pos hlt]; rfl
    · rw [if_neg hlt, if_neg hlt, e0]

theorem spec_step {d h mi r : Int} (A : Args d h mi r) (y : Int) (j : Nat) (hy : 1999 ≤ y) (hy' : y ≤ 2101) (hj : j < 12) (o : Option Int) (ho : okO o) (a b c e f : Int) :
    ∃ K, ∀ k, K ≤ k → spec_NearDay.l1 (k + 1) d h mi r (encS o) y ((j : Int) + 1) a b c e f = spec_NearDay.l1 k d h mi r (encS (fold r o (cand d h mi y j).toList)) y (((j + 1 : Nat) : Int) + 1) a b c e f := by
  have hmod : Int.tmod h 24 = h % 24 := Int.tmod_eq_emod_of_nonneg A.h1
  have m1 : 0 ≤ h % 24 := by omega
  have m2 : h % 24 ≤ 23 := by omega
  obtain ⟨K, hK0⟩ := timeOf_ev y d (h % 24) mi j hy hy' hj A.d1 A.d2 m1 m2 A.m1 A.m2
  refine ⟨K, fun k hk => ?_⟩
  have hK : spec_TimeOf.f k y ((j : Int) + 1) d (h % 24) mi = some (if Cnt d h mi y j then (((D1 y + cum y j + d - 1) * 24 + h % 24) * 60 + mi, true) else (0, false)) := hK0 k hk
  clear hK0
  have e1 := next_w j hj
  have hTr := T_range A y j hj hy hy'
  simp only [spec_NearDay.l1]
  rw [if_pos (by omega), hmod, hK, e1, Option.bind_some]
  by_cases hcond : Cnt d h mi y j
  · have hcd := cand_cnt A y j hcond
    have hT := cnt_T A y j
    rw [if_pos hcond]
    simp only [if_true]
    have fin : ∀ t : Int, t = T d h mi y j → (if (decide (0 ≤ t) && decide (t ≤ 52596000)) = true then
        (if encS o < 0 then spec_NearDay.l1 k d h mi r t y (((j + 1 : Nat) : Int) + 1) a b c e f else if mx (wrap64 (t - r)) (wrap64 (r - t)) < mx (wrap64 (encS o - r)) (wrap64 (r - encS o)) then spec_NearDay.l1 k d h mi r t y (((j + 1 : Nat) : Int) + 1) a b c e f else spec_NearDay.l1 k d h mi r (encS o) y (((j + 1 : Nat) : Int) + 1) a b c e f)
        else spec_NearDay.l1 k d h mi r (encS o) y (((j + 1 : Nat) : Int) + 1) a b c e f) = spec_NearDay.l1 k d h mi r (encS (fold r o (cand d h mi y j).toList)) y (((j + 1 : Nat) : Int) + 1) a b c e f := by
      rintro t rfl
      rw [hcd]
      by_cases ht : 0 ≤ T d h mi y j ∧ T d h mi y j ≤ 52596000
      · rw [if_pos (by simpa using ht), if_pos ht, spec_pick A k o ho _ ht.1 ht.2]; rfl
      · rw [if_neg (by simpa using ht), if_neg ht]; rfl
    by_cases e24 : h = 24
    · rw [if_pos e24] at hT
      have eT : wrap64 (((D1 y + cum y j + d - 1) * 24 + h % 24) * 60 + mi + 1440) = T d h mi y j := by rw [hT]; exact w64 (by omega) (by omega)
      rw [if_pos e24, eT, l2Time_eq, Option.bind_some]
      exact fin _ rfl
    · rw [if_neg e24, Int.add_zero] at hT
      rw [if_neg e24, hT, l2Time_eq, Option.bind_some]
      exact fin _ rfl
  · rw [if_neg hcond, cand_not A y j hj hcond]
    simp only [Bool.false_eq_true, if_false]
    rfl

theorem okO_fold {r : Int} (o : Option Int) (l : List Int) (ho : okO o) (hl : ∀ t ∈ l, 0 ≤ t ∧ t ≤ 52596000) : okO (fold r o l) := by
  intro b hb
  rcases fold_mem r l o b hb with h | h
  · exact ho b h
  · exact hl b h

theorem impl_loop {d h mi r : Int} (A : Args d h mi r) : Ev (fun k => impl_NearDay.l0 k d h mi r 0 false 2000) (encI (fold r none (LL d h mi 2000 101))) := by
  have okN : okO none := fun b hb => by cases hb
  have := count (fun k i (s : Int × Bool) => impl_NearDay.l0 k d h mi r s.1 s.2 (2000 + i)) 101 (fun i => encI (fold r none (LL d h mi 2000 i))) (encI (fold r none (LL d h mi 2000 101)))
  have key : ∀ n i : Nat, 101 - i = n → i ≤ 101 → Ev (fun k => impl_NearDay.l0 k d h mi r (encI (fold r none (LL d h mi 2000 i))).1 (encI (fold r none (LL d h mi 2000 i))).2 (2000 + (i : Int))) (encI (fold r none (LL d h mi 2000 101))) := by
    intro n
    induction n with
    | zero =>
      intro i h1 h2
      obtain rfl : i = 101 := by omega
      refine Ev_succ fun k => ?_
      simp only [impl_NearDay.l0]
      rw [if_neg (by decide)]
    | succ n ih =>
      intro i h1 h2
      refine Ev.step (f := fun k => impl_NearDay.l1 k d h mi r (encI (fold r none (LL d h mi 2000 i))).1 (encI (fold r none (LL d h mi 2000 i))).2 (2000 + (i : Int)) 1) (fun k => ?_) ?_
      · simp only [impl_NearDay.l0]
        rw [if_pos (by omega)]
      · have := count (fun k m (s : Int × Bool) => impl_NearDay.l1 k d h mi r s.1 s.2 (2000 + (i : Int)) (m + 1)) 12 (fun m => encI (fold r none (LL d h mi 2000 i ++ LY d h mi (2000 + (i : Int)) m))) (encI (fold r none (LL d h mi 2000 101))) ?_ ?_ 0 (by omega)
        · simpa [LY] using this
        · intro m hm2
          have := impl_step A (2000 + (i : Int)) m (by omega) (by omega) hm2 (fold r none (LL d h mi 2000 i ++ LY d h mi (2000 + (i : Int)) m)) (okO_fold _ _ okN (fun t ht => by
            rcases List.mem_append.1 ht with ht | ht
            · exact LL_range d h mi ht
            · exact LY_range d h mi ht))
          rw [← fold_append, List.append_assoc, ← LY_succ] at this
          exact this
        · refine Ev.step (f := fun k => impl_NearDay.l0 k d h mi r (encI (fold r none (LL d h mi 2000 (i + 1)))).1 (encI (fold r none (LL d h mi 2000 (i + 1)))).2 (2000 + ((i + 1 : Nat) : Int))) (fun k => ?_) (ih (i + 1) (by omega) (by omega))
          simp only [impl_NearDay.l1]
          rw [if_neg (by decide), w64 (by omega) (by omega), LL_succ]
          congr 1
  exact key _ 0 rfl (by omega)

theorem spec_loop {d h mi r : Int} (A : Args d h mi r) (Y a b c e f : Int) (hY : 2000 ≤ Y) (hY' : Y ≤ 2100) :
    Ev (fun k => spec_NearDay.l0 k d h mi r (-1) (Y - 1) Y b c e f) (encI (fold r none (LL d h mi (Y - 1) 3))) := by
  have okN : okO none := fun b hb => by cases hb
  have hlast : ∀ o : Option Int, okO o → (if encS o < 0 then some ((0 : Int), false) else some (encS o, true)) = some (encI o) := by
    intro o ho
    cases o with
    | none => rfl
    | some b => have := ho b rfl; rw [if_neg (by show ¬ b < 0; omega)]; rfl
  have key : ∀ n i : Nat, 3 - i = n → i ≤ 3 → Ev (fun k => spec_NearDay.l0 k d h mi r (encS (fold r none (LL d h mi (Y - 1) i))) (Y - 1 + (i : Int)) Y b c e f) (encI (fold r none (LL d h mi (Y - 1) 3))) := by
    intro n
    induction n with
    | zero =>
      intro i h1 h2
      obtain rfl : i = 3 := by omega
      refine Ev_succ fun k => ?_
      simp only [spec_NearDay.l0]
      rw [w64 (by omega) (by omega), if_neg (by omega)]
      exact hlast _ (okO_fold _ _ okN (fun t ht => LL_range d h mi ht))
    | succ n ih =>
      intro i h1 h2
      refine Ev.step (f := fun k => spec_NearDay.l1 k d h mi r (encS (fold r none (LL d h mi (Y - 1) i))) (Y - 1 + (i : Int)) 1 Y b c e f) (fun k => ?_) ?_
      · simp only [spec_NearDay.l0]
        rw [w64 (by omega) (by omega), if_pos (by omega)]
      · have := count (fun k m (s : Int) => spec_NearDay.l1 k d h mi r s (Y - 1 + (i : Int)) (m + 1) Y b c e f) 12 (fun m => encS (fold r none (LL d h mi (Y - 1) i ++ LY d h mi (Y - 1 + (i : Int)) m))) (encI (fold r none (LL d h mi (Y - 1) 3))) ?_ ?_ 0 (by omega)
        · simpa [LY] using this
        · intro m hm2
          have := spec_step A (Y - 1 + (i : Int)) m (by omega) (by omega) hm2 (fold r none (LL d h mi (Y - 1) i ++ LY d h mi (Y - 1 + (i : Int)) m)) (okO_fold _ _ okN (fun t ht => by
            rcases List.mem_append.1 ht with ht | ht
            · exact LL_range d h mi ht
            · exact LY_range d h mi ht)) Y b c e f
          rw [← fold_append, List.append_assoc, ← LY_succ] at this
          exact this
        · refine Ev.step (f := fun k => spec_NearDay.l0 k d h mi r (encS (fold r none (LL d h mi (Y - 1) (i + 1)))) (Y - 1 + ((i + 1 : Nat) : Int)) Y b c e f) (fun k => ?_) (ih (i + 1) (by omega) (by omega))
          simp only [spec_NearDay.l1]
          rw [if_neg (by decide), w64 (by omega) (by omega), LL_succ]
          congr 1
          omega
  have h0 := key _ 0 rfl (by omega)
  rw [show Y - 1 + ((0 : Nat) : Int) = Y - 1 by omega] at h0
  exact h0

theorem both (d h mi r : Int) : ∃ q, Ev (fun k => spec_NearDay.f k d h mi r) q ∧ Ev (fun k => impl_NearDay.f k d h mi r) q := by
  have hs : Ev (fun k => spec_NearDay.j0 k d h mi r true) (0, false) := Ev_succ fun k => by simp only [spec_NearDay.j0]; rfl
  have hi : Ev (fun k => impl_NearDay.j0 k d h mi r true) (0, false) := Ev_succ fun k => by simp only [impl_NearDay.j0]; rfl
  simp only [spec_NearDay.f, impl_NearDay.f, isTime_eq, l2Time_eq, l2In_eq, in_eq]
  by_cases h1 : (decide (0 ≤ r) && decide (r ≤ 52596000)) = true
  · by_cases h2 : (decide (1 ≤ d) && decide (d ≤ 31)) = true
    · by_cases h3 : (decide (0 ≤ h) && decide (h ≤ 24)) = true
      · by_cases h4 : (decide (0 ≤ mi) && decide (mi ≤ 59)) = true
        · rw [h1, h2, h3, h4]
          by_cases h5 : h = 24 ∧ mi ≠ 0
          · obtain ⟨rfl, h6⟩ := h5
            refine ⟨(0, false), ?_, ?_⟩
            · have : (mi != 0) = true := by simpa using h6
              rw [this]
              exact hs
            · have : (mi != 0) = true := by simpa using h6
              rw [this]
              exact hi
          · have go : ∃ q, Ev (fun k => spec_NearDay.j0 k d h mi r false) q ∧ Ev (fun k => impl_NearDay.j0 k d h mi r false) q := by
              simp only [Bool.and_eq_true, decide_eq_true_eq] at h1 h2 h3 h4
              have A : Args d h mi r := ⟨h2.1, h2.2, h3.1, h3.2, h4.1, h4.2, by omega, h1.1, h1.2⟩
              obtain ⟨q, hq, hY, hY', hlo, hhi⟩ := dateOf_ev r h1.1 h1.2
              refine ⟨encI (fold r none (LL d h mi 2000 101)), ?_, ?_⟩
              · refine Ev.step (fun k => spec_NearDay.j0.eq_2 _ _ _ _ _ k) ?_
                refine evNeg (by simp) (Ev.bind hq ?_)
                rw [w64 (by omega) (by omega), near_three d h mi r q.1 h2.1 h2.2 h3.1 h3.2 h4.1 h4.2 (by omega) h1.1 h1.2 hY hY' hlo hhi]
                exact spec_loop A q.1 0 _ _ _ _ hY hY'
              · refine Ev.step (fun k => impl_NearDay.j0.eq_2 _ _ _ _ _ k) ?_
                exact evNeg (by simp) (impl_loop A)
            by_cases h6 : h = 24
            · have h7 : mi = 0 := by omega
              subst h6 h7
              exact go
            · obtain ⟨q, ha, hb⟩ := go
              refine ⟨q, ?_, ?_⟩
              · show Ev (fun k => if h = 24 then _ else _) q
                exact evNeg h6 ha
              · show Ev (fun k => if h = 24 then _ else _) q
                exact evNeg h6 hb
        · rw [Bool.not_eq_true] at h4
          rw [h1, h2, h3, h4]
          exact ⟨_, hs, hi⟩
      · rw [Bool.not_eq_true] at h3
        rw [h1, h2, h3]
        exact ⟨_, hs, hi⟩
    · rw [Bool.not_eq_true] at h2
      rw [h1, h2]
      exact ⟨_, hs, hi⟩
  · rw [Bool.not_eq_true] at h1
    rw [h1]
    exact ⟨_, hs, hi⟩

end Go.Proofs.Ytmndffnjejgfoaa.NearDay
namespace Go.Proofs.Ytmndffnjejgfoaa.Pure
open Go.RowKit Go.Proofs.Ytmndffnjejgfoaa.Q Go.Proofs.Ytmndffnjejgfoaa.Gen Go.Proofs.YtmndffnjejgfoaaW.PrintWords Go.Proofs.YtmndffnjejgfoaaW.PrintMore

theorem FnExactNearDay : laws_FnExactNearDay.Pure := by
  intro d h mi r _ _ _ _
  refine Ev.rounds ?_
  obtain ⟨q, hs, hi⟩ := NearDay.both d h mi r
  simp only [laws_FnExactNearDay.f]
  exact Ev.bind hs (Ev.bind hi (evPos rfl (evNeg (by simp) (Ev.now _))))

end Go.Proofs.Ytmndffnjejgfoaa.Pure
