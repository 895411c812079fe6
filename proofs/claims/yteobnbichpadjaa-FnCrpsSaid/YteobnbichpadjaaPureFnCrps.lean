/- The plain statement of the law FnCrps: the score is never below 0, is 0 just where all members are what came, and does not hang on their order; no condition. -/
import Derived.Test.YteobnbichpadjaaSum
import Derived.Test.YteobnbichpadjaaDraw
import Derived.Test.YteobnbichpadjaaInAll
import Derived.Test.YteobnbichpadjaaQx1
import Derived.Test.YteobnbichpadjaaQx11
import Derived.Test.YteobnbichpadjaaQx12
import Derived.Test.YteobnbichpadjaaQx13
import Derived.Test.YteobnbichpadjaaQx14
import Derived.Test.YteobnbichpadjaaQx15
import Derived.Test.YteobnbichpadjaaQx16
import Derived.Test.YteobnbichpadjaaQx17
set_option linter.unusedVariables false
set_option linter.unusedSimpArgs false
namespace Go.Proofs.Yteobnbichpadjaa.Pure
open Go.RowKit Go.Proofs.Yteobnbichpadjaa.Q Go.Proofs.Yteobnbichpadjaa.Gen Go.Proofs.Yteobnbichpadjaa.Sum Go.Proofs.Yteobnbichpadjaa.Draw Go.Proofs.YteobnbichpadjaaW.PrintWords Go.Proofs.YteobnbichpadjaaW.PrintMore

def dist (a b : Int) : Int := if a ≤ b then b - a else a - b
theorem dist_nonneg (a b : Int) : 0 ≤ dist a b := by unfold dist; split <;> omega
theorem dist_tri (a b x : Int) : dist a b ≤ dist a x + dist b x := by unfold dist; repeat' split
                                                                      all_goals omega
theorem dist_self (a : Int) : dist a a = 0 := by unfold dist; split <;> omega
theorem dist_eq {a b : Int} (h : dist a b = 0) : a = b := by unfold dist at h; split at h <;> omega
theorem dist_comm (a b : Int) : dist a b = dist b a := by unfold dist; repeat' split
                                                          all_goals omega
def InM (x : Int) : Prop := -1000000 ≤ x ∧ x ≤ 1000000
theorem dist_le {a b : Int} (ha : InM a) (hb : InM b) : dist a b ≤ 2000000 := by unfold InM at *; unfold dist; split <;> omega
theorem mx_dist {a b : Int} (ha : InM a) (hb : InM b) : mx (wrap64 (a - b)) (wrap64 (b - a)) = dist a b := by
  unfold InM at *
  rw [w64 (x := a - b) (by omega) (by omega), w64 (x := b - a) (by omega) (by omega)]
  unfold mx dist
  repeat' split
  all_goals omega

def R (m : List Int) (a : Int) : Int := tot (m.map fun b => dist a b)
def T (m : List Int) (x : Int) : Int := tot (m.map fun a => dist a x)
def f1 (m : List Int) (x a : Int) : Int := (2 * (m.length : Int)) * dist a x - R m a
def V (m : List Int) (x : Int) : Int := tot (m.map (f1 m x))

theorem R_rev (m : List Int) : R m.reverse = R m := by funext a; exact tot_map_rev _ _
theorem V_rev (m : List Int) (x : Int) : V m.reverse x = V m x := by
  have : f1 m.reverse x = f1 m x := by funext a; simp only [f1, R_rev, List.length_reverse]
  unfold V
  rw [this]
  exact tot_map_rev _ _

theorem succ_mul' (n : Nat) (d : Int) : ((n + 1 : Nat) : Int) * d = n * d + d := by rw [Int.natCast_succ, Int.add_mul, Int.one_mul]

theorem R_weak (l : List Int) (a x : Int) : R l a ≤ l.length * dist a x + T l x := by
  induction l with
  | nil => simp [R, T, tot]
  | cons b l ih =>
    have := dist_tri a b x
    simp only [R, T, List.map_cons, tot, List.length_cons, succ_mul'] at ih ⊢
    omega
theorem R_strong (l : List Int) (a x : Int) (ha : a ∈ l) : R l a + 2 * dist a x ≤ l.length * dist a x + T l x := by
  induction l with
  | nil => cases ha
  | cons b l ih =>
    simp only [R, T, List.map_cons, tot, List.length_cons, succ_mul'] at ih ⊢
    rcases List.mem_cons.mp ha with rfl | ha
    · have := R_weak l a x
      have e := dist_self a
      simp only [R, T] at this
      omega
    · have := dist_tri a b x
      have := ih ha
      omega
theorem tot_lin (g : Int → Int) (c e : Int) (l : List Int) : tot (l.map fun a => c * g a - e + 2 * g a) = c * tot (l.map g) - l.length * e + 2 * tot (l.map g) := by
  induction l with
  | nil => simp [tot]
  | cons b l ih =>
    simp only [List.map_cons, tot, List.length_cons, succ_mul', ih, Int.mul_add]
    omega
theorem V_ge (m : List Int) (x : Int) : 2 * T m x ≤ V m x := by
  have h := tot_le (fun a => (m.length : Int) * dist a x - T m x + 2 * dist a x) (f1 m x) m (fun a ha => by
    have := R_strong m a x ha
    have e : (2 * (m.length : Int)) * dist a x = m.length * dist a x + m.length * dist a x := by rw [Int.mul_assoc]; omega
    simp only [f1, e]
    omega)
  rw [tot_lin (fun a => dist a x)] at h
  unfold V
  simp only [T] at h ⊢
  omega
theorem T_nonneg (m : List Int) (x : Int) : 0 ≤ T m x := tot_nonneg _ _ fun a _ => dist_nonneg a x
theorem V_nonneg (m : List Int) (x : Int) : 0 ≤ V m x := by have := V_ge m x; have := T_nonneg m x; omega
theorem V_zero (m : List Int) (x : Int) : V m x = 0 ↔ ∀ a ∈ m, a = x := by
  constructor
  · intro h a ha
    have h1 := V_ge m x
    exact dist_eq (zero_of_tot (fun a => dist a x) m (fun a _ => dist_nonneg a x) (by simp only [T] at h1; omega) a ha)
  · intro h
    refine tot_zero _ _ fun a ha => ?_
    have e : R m a = 0 := tot_zero _ _ fun b hb => by rw [h a ha, h b hb]; exact dist_self x
    show (2 * (m.length : Int)) * dist a x - R m a = 0
    rw [e, h a ha, dist_self]
    simp

def okM (m : List Int) : Bool := decide (1 ≤ m.length) && decide (m.length ≤ 60) && m.all fun x => inS x (-1000000) 1000000
structure Ok (m : List Int) : Prop where
  l0 : 1 ≤ m.length
  l1 : m.length ≤ 60
  al : ∀ a ∈ m, InM a
theorem okM_ok {m : List Int} (h : okM m = true) : Ok m := by
  simp only [okM, Bool.and_eq_true, decide_eq_true_iff, List.all_eq_true] at h
  exact ⟨h.1.1, h.1.2, fun a ha => (inS_iff _ _ _).mp (h.2 a ha)⟩
theorem Ok.get {m : List Int} (h : Ok m) (j : Nat) (hj : j < m.length) : InM (m.getD j 0) := by
  rw [List.getD_eq_getElem?_getD, List.getElem?_eq_getElem hj]; exact h.al _ (List.getElem_mem hj)
theorem okM_rev (m : List Int) : okM m.reverse = okM m := by simp [okM]

theorem ok_spec (m : List Int) (h : m.length ≤ 1048576) : Ev (fun k => spec_l18Ok.f k m) (okM m) := by
  simp only [spec_l18Ok.f]
  by_cases h1 : (m.length : Int) ≥ 1
  · refine evPos h1 ?_
    by_cases h2 : (m.length : Int) ≤ 60
    · refine evPos h2 (Ev.bind (all_spec m m.length (-1000000) 1000000 (by omega)) ?_)
      rw [show (decide ((m.length : Int) = (m.length : Int)) && m.all fun x => inS x (-1000000) 1000000) = okM m by simp [okM, show 1 ≤ m.length by omega, show m.length ≤ 60 by omega]]
      exact Ev.now _
    · rw [show okM m = false by simp [okM, show ¬ m.length ≤ 60 by omega]]
      exact evNeg h2 (Ev.now _)
  · rw [show okM m = false by simp [okM, show ¬ 1 ≤ m.length by omega]]
    exact evNeg h1 (Ev.now _)
theorem ok_impl (m : List Int) (h : m.length ≤ 1048576) : Ev (fun k => impl_membersOk.f k m) (okM m) := by
  simp only [impl_membersOk.f, in_s, Option.bind_some]
  by_cases h1 : inS (m.length : Int) 1 60 = true
  · have h2 := (inS_iff _ _ _).mp h1
    refine evPos h1 (Ev.bind (all_impl m m.length (-1000000) 1000000 (by omega)) ?_)
    rw [show (decide ((m.length : Int) = (m.length : Int)) && m.all fun x => inS x (-1000000) 1000000) = okM m by simp [okM, show 1 ≤ m.length by omega, show m.length ≤ 60 by omega]]
    exact Ev.now _
  · rw [show okM m = false by
      rw [← Bool.not_eq_true]
      intro h
      have := okM_ok h
      exact h1 ((inS_iff _ _ _).mpr ⟨by have := this.l0; omega, by have := this.l1; omega⟩)]
    exact evNeg h1 (Ev.now _)

/-- The sums on the way stay small. -/
structure Small (m : List Int) (x : Int) : Prop where
  d : ∀ j, j < m.length → 0 ≤ (2 * (m.length : Int)) * dist (m.getD j 0) x ∧ (2 * (m.length : Int)) * dist (m.getD j 0) x ≤ 240000000
  p : ∀ j, j ≤ m.length → -7200000000 ≤ tot ((m.take j).map (f1 m x)) ∧ tot ((m.take j).map (f1 m x)) ≤ 14400000000
  r : ∀ i j, i < m.length → 0 ≤ tot ((m.take j).map (dist (m.getD i 0))) ∧ tot ((m.take j).map (dist (m.getD i 0))) ≤ 120000000

theorem small {m : List Int} {x : Int} (h : Ok m) (hx : InM x) : Small m x := by
  have hl := h.l1
  have two : ∀ a, InM a → 0 ≤ (2 * (m.length : Int)) * dist a x ∧ (2 * (m.length : Int)) * dist a x ≤ 240000000 := by
    intro a ha
    have h1 := dist_nonneg a x
    have h2 := dist_le ha hx
    refine ⟨Int.mul_nonneg (by omega) h1, ?_⟩
    have := Int.mul_le_mul (show 2 * (m.length : Int) ≤ 120 by omega) h2 h1 (by omega)
    omega
  have rr : ∀ a, InM a → ∀ j, 0 ≤ tot ((m.take j).map (dist a)) ∧ tot ((m.take j).map (dist a)) ≤ 120000000 := by
    intro a ha j
    have hm : ∀ b ∈ m.take j, b ∈ m := fun b hb => List.mem_of_mem_take hb
    have := tot_bound (dist a) 0 2000000 (m.take j) fun b hb => ⟨dist_nonneg a b, dist_le ha (h.al b (hm b hb))⟩
    have hl2 : (m.take j).length ≤ 60 := by simp; omega
    omega
  refine ⟨fun j hj => two _ (h.get j hj), fun j hj => ?_, fun i j hi => rr _ (h.get i hi) j⟩
  have hm : ∀ b ∈ m.take j, b ∈ m := fun b hb => List.mem_of_mem_take hb
  have := tot_bound (f1 m x) (-120000000) 240000000 (m.take j) fun b hb => by
    have h1 := two b (h.al b (hm b hb))
    have h2 := rr b (h.al b (hm b hb)) m.length
    rw [List.take_length] at h2
    have e : f1 m x b = (2 * (m.length : Int)) * dist b x - tot (m.map (dist b)) := rfl
    omega
  have hl2 : (m.take j).length ≤ 60 := by simp; omega
  omega

theorem crps_spec_l0 (m : List Int) (x : Int) (h : Ok m) (hx : InM x) : Ev (fun k => spec_Crps.l0 k m x (m.length : Int) 0 0) (V m x) := by
  have s := small h hx
  have hl := h.l1
  have main : ∀ t j, m.length - j = t → j ≤ m.length → Ev (fun k => spec_Crps.l0 k m x (m.length : Int) (tot ((m.take j).map (f1 m x))) (j : Int)) (V m x) := by
    intro t
    induction t with
    | zero =>
      intro j h1 h2
      obtain rfl : j = m.length := by omega
      refine Ev_succ fun k => ?_
      simp only [spec_Crps.l0]
      rw [if_neg (by omega), List.take_length]
      rfl
    | succ t ih =>
      intro j h1 h2
      have hj : j < m.length := by omega
      have hp := s.p j h2
      have hd := s.d j hj
      have inner : ∀ t q, m.length - q = t → q ≤ m.length → Ev (fun k => spec_Crps.l1 k m x (m.length : Int) (tot ((m.take j).map (f1 m x)) + (2 * (m.length : Int)) * dist (m.getD j 0) x - tot ((m.take q).map (dist (m.getD j 0)))) (j : Int) (q : Int)) (V m x) := by
        intro t
        induction t with
        | zero =>
          intro q h3 h4
          obtain rfl : q = m.length := by omega
          have := ih (j + 1) (by omega) (by omega)
          rw [tot_take_succ _ _ 0 _ hj] at this
          refine Ev.step (fun k => ?_) this
          simp only [spec_Crps.l1]
          rw [if_neg (by omega), up1 (by omega), List.take_length, Int.add_sub_assoc]
          rfl
        | succ t ih2 =>
          intro q h3 h4
          have hq : q < m.length := by omega
          have hr := s.r j q hj
          have hr2 := s.r j (q + 1) hj
          have := ih2 (q + 1) (by omega) (by omega)
          rw [tot_take_succ _ _ 0 _ hq] at this hr2
          refine Ev.step (fun k => ?_) this
          simp only [spec_Crps.l1]
          rw [if_pos (by omega), if_pos (by omega), if_pos (by omega), if_pos (by omega), rd_nat, rd_nat, mx_dist (h.get j hj) (h.get q hq), w64 (by omega) (by omega), up1 (by omega), Int.sub_sub]
      refine Ev.step (fun k => ?_) (inner _ 0 rfl (by omega))
      simp only [spec_Crps.l0]
      rw [if_pos (by omega), if_pos (by omega), rd_nat, mx_dist (h.get j hj) hx, w64 (x := 2 * (m.length : Int)) (by omega) (by omega), w64 (x := (2 * (m.length : Int)) * dist (m.getD j 0) x) (by omega) (by omega), w64 (by omega) (by omega)]
      simp [tot]
  have := main _ 0 rfl (by omega)
  simpa [tot] using this

theorem crps_impl_l0 (m : List Int) (x : Int) (h : Ok m) (hx : InM x) : Ev (fun k => impl_Crps.l0 k m x 0 m (m.length : Int) 0) (V m x) := by
  have s := small h hx
  have hl := h.l1
  have main : ∀ t j, m.length - j = t → j ≤ m.length → Ev (fun k => impl_Crps.l0 k m x (tot ((m.take j).map (f1 m x))) m (m.length : Int) (j : Int)) (V m x) := by
    intro t
    induction t with
    | zero =>
      intro j h1 h2
      obtain rfl : j = m.length := by omega
      refine Ev_succ fun k => ?_
      simp only [impl_Crps.l0]
      rw [if_neg (by omega), List.take_length]
      rfl
    | succ t ih =>
      intro j h1 h2
      have hj : j < m.length := by omega
      have hp := s.p j h2
      have hd := s.d j hj
      have inner : ∀ t q, m.length - q = t → q ≤ m.length → Ev (fun k => impl_Crps.l1 k m x (tot ((m.take j).map (f1 m x)) + (2 * (m.length : Int)) * dist (m.getD j 0) x - tot ((m.take q).map (dist (m.getD j 0)))) (m.getD j 0) m (m.length : Int) (j : Int) m (m.length : Int) (q : Int)) (V m x) := by
        intro t
        induction t with
        | zero =>
          intro q h3 h4
          obtain rfl : q = m.length := by omega
          have := ih (j + 1) (by omega) (by omega)
          rw [tot_take_succ _ _ 0 _ hj] at this
          refine Ev.step (fun k => ?_) this
          simp only [impl_Crps.l1]
          rw [if_neg (by omega), up1 (by omega), List.take_length, Int.add_sub_assoc]
          rfl
        | succ t ih2 =>
          intro q h3 h4
          have hq : q < m.length := by omega
          have hr := s.r j q hj
          have hr2 := s.r j (q + 1) hj
          have := ih2 (q + 1) (by omega) (by omega)
          rw [tot_take_succ _ _ 0 _ hq] at this hr2
          refine Ev.step (fun k => ?_) this
          simp only [impl_Crps.l1, impl_away.f, Option.bind_some]
          rw [if_pos (by omega), if_pos (by omega), if_pos (by omega), rd_nat, mx_dist (h.get j hj) (h.get q hq), w64 (by omega) (by omega), up1 (by omega), Int.sub_sub]
      refine Ev.step (fun k => ?_) (inner _ 0 rfl (by omega))
      simp only [impl_Crps.l0, impl_away.f, Option.bind_some]
      rw [if_pos (by omega), if_pos (by omega), if_pos (by omega), rd_nat, mx_dist (h.get j hj) hx, w64 (x := 2 * (m.length : Int)) (by omega) (by omega), w64 (x := (2 * (m.length : Int)) * dist (m.getD j 0) x) (by omega) (by omega), w64 (by omega) (by omega)]
      simp [tot]
  have := main _ 0 rfl (by omega)
  simpa [tot] using this

def okX (m : List Int) (x : Int) : Bool := okM m && inS x (-1000000) 1000000
def crps (m : List Int) (x : Int) : Int := if okX m x = true then V m x else -1

theorem crps_spec (m : List Int) (x : Int) (h : m.length ≤ 1048576) : Ev (fun k => spec_Crps.f k m x) (crps m x) := by
  simp only [spec_Crps.f, l2In_s, Option.bind_some]
  have no : Ev (fun k => spec_Crps.j0 k m x true) (-1) := Ev_succ fun k => by simp only [spec_Crps.j0]; rfl
  refine Ev.bind (ok_spec m h) ?_
  by_cases h1 : okM m = true
  · refine evPos h1 ?_
    by_cases h2 : inS x (-1000000) 1000000 = true
    · rw [show crps m x = V m x by simp [crps, okX, h1, h2], h2]
      refine Ev.step (fun k => ?_) (crps_spec_l0 m x (okM_ok h1) ((inS_iff _ _ _).mp h2))
      simp only [spec_Crps.j0]
      rfl
    · rw [Bool.not_eq_true] at h2
      rw [show crps m x = -1 by simp [crps, okX, h2], h2]
      exact no
  · rw [show crps m x = -1 by simp [crps, okX, h1]]
    exact evNeg h1 no
theorem crps_impl (m : List Int) (x : Int) (h : m.length ≤ 1048576) : Ev (fun k => impl_Crps.f k m x) (crps m x) := by
  simp only [impl_Crps.f, in_s, Option.bind_some]
  have no : Ev (fun k => impl_Crps.j0 k m x true) (-1) := Ev_succ fun k => by simp only [impl_Crps.j0]; rfl
  refine Ev.bind (ok_impl m h) ?_
  by_cases h1 : okM m = true
  · refine evPos h1 ?_
    by_cases h2 : inS x (-1000000) 1000000 = true
    · rw [show crps m x = V m x by simp [crps, okX, h1, h2], h2]
      refine Ev.step (fun k => ?_) (crps_impl_l0 m x (okM_ok h1) ((inS_iff _ _ _).mp h2))
      simp only [impl_Crps.j0]
      rfl
    · rw [Bool.not_eq_true] at h2
      rw [show crps m x = -1 by simp [crps, okX, h2], h2]
      exact no
  · rw [show crps m x = -1 by simp [crps, okX, h1]]
    exact evNeg h1 no

theorem over_ev (m : List Int) (x : Int) (h1 : okM m = true) : ∃ r : Int, 0 ≤ r ∧ r ≤ m.length ∧ Ev (fun k => impl_Over.f k m x) r := by
  have h := okM_ok h1
  have hl := h.l1
  simp only [impl_Over.f]
  have main : ∀ t j (a : Int), m.length - j = t → j ≤ m.length → 0 ≤ a → a ≤ j → ∃ r : Int, 0 ≤ r ∧ r ≤ m.length ∧ Ev (fun k => impl_Over.l0 k x a m (m.length : Int) (j : Int)) r := by
    intro t
    induction t with
    | zero =>
      intro j a h1 h2 h3 h4
      obtain rfl : j = m.length := by omega
      refine ⟨a, h3, h4, Ev_succ fun k => ?_⟩
      simp only [impl_Over.l0]
      rw [if_neg (by omega)]
    | succ t ih =>
      intro j a h1 h2 h3 h4
      by_cases c : rd m (j : Int) ≥ x
      · obtain ⟨r, r0, r1, e⟩ := ih (j + 1) (a + 1) (by omega) (by omega) (by omega) (by omega)
        refine ⟨r, r0, r1, Ev.step (fun k => ?_) e⟩
        simp only [impl_Over.l0]
        rw [if_pos (by omega), if_pos (by omega), if_pos (by omega), if_pos c, w64 (by omega) (by omega), up1 (by omega)]
      · obtain ⟨r, r0, r1, e⟩ := ih (j + 1) a (by omega) (by omega) (by omega) (by omega)
        refine ⟨r, r0, r1, Ev.step (fun k => ?_) e⟩
        simp only [impl_Over.l0]
        rw [if_pos (by omega), if_pos (by omega), if_pos (by omega), if_neg c, up1 (by omega)]
  obtain ⟨r, r0, r1, e⟩ := main _ 0 0 rfl (by omega) (by omega) (by omega)
  exact ⟨r, r0, r1, Ev.bind (ok_impl m (by omega)) (evPos h1 e)⟩

/-! the draws -/
theorem members_ok {l : List Int} (h : Src l) {p : Int} (hp : At l p) : ∃ m q, Ev (fun k => spec_l1Rd_members.f k l p 20) (m, q) ∧ 1 ≤ m.length ∧ m.length ≤ 20 ∧ At l q := by
  simp only [spec_l1Rd_members.f]
  obtain ⟨n, q, e, n0, n1, hq⟩ := size_ok h hp 3 20 (by omega) (by omega) (by omega)
  simp only [e, Option.bind_some]
  have main : ∀ (t : Nat) (i : Int) (a : List Int) (p : Int), n - i = t → i = a.length → i ≤ n → At l p → ∃ m q, Ev (fun k => spec_l1Rd_members.l0 k n a i l p) (m, q) ∧ 1 ≤ m.length ∧ m.length ≤ 20 ∧ At l q := by
    intro t
    induction t with
    | zero =>
      intro i a p h1 h2 h3 hp
      refine ⟨a, p, Ev_succ fun k => ?_, by omega, by omega, hp⟩
      simp only [spec_l1Rd_members.l0]
      rw [if_neg (by omega)]
    | succ t ih =>
      intro i a p h1 h2 h3 hp
      obtain ⟨v, q, e, _, _, hq⟩ := below_ok h hp 60 (by omega)
      obtain ⟨m, q', e', r⟩ := ih (i + 1) (a ++ [wrap64 (v - 20)]) q (by omega) (by simp; omega) (by omega) hq
      refine ⟨m, q', Ev.step (fun k => ?_) e', r⟩
      simp only [spec_l1Rd_members.l0]
      rw [if_pos (by omega), e, Option.bind_some, if_pos (by omega), w64 (x := i + 1) (by omega) (by omega)]
  exact main (n.toNat) 0 [] q (by omega) (by simp) (by omega) hq

theorem draw18_ok {l : List Int} (h : Src l) {p : Int} (hp : At l p) : ∃ m q, Ev (fun k => spec_l18Draw.f k l p) (m, q) ∧ m.length ≤ 61 ∧ At l q := by
  simp only [spec_l18Draw.f]
  obtain ⟨m, q, e, m0, m1, hq⟩ := members_ok h hp
  obtain ⟨v, q2, e2, v0, v1, hq2⟩ := below_ok h hq 20 (by omega)
  by_cases c0 : v = 0
  · obtain ⟨u, q3, e3, u0, u1, hq3⟩ := below_ok h hq2 4 (by omega)
    refine ⟨m.set 0 (rd [1000000, 1000001, -1000000, -1000001] u), q3, Ev.bind e ?_, by simp; omega, hq3⟩
    simp only [e2, Option.bind_some, e3]
    exact evPos c0 (evPos u0 (evPos (by simpa using u1) (evPos (by omega) (Ev.now _))))
  by_cases c1 : v = 1
  · refine ⟨m.take 0, q2, Ev.bind e ?_, by simp, hq2⟩
    simp only [e2, Option.bind_some]
    exact evNeg c0 (evPos c1 (evPos (by omega) (Ev.now _)))
  by_cases c2 : v = 2
  · obtain ⟨u, q3, e3, u0, u1, hq3⟩ := below_ok h hq2 2 (by omega)
    have hw : wrap64 (60 + u) = 60 + u := w64 (by omega) (by omega)
    refine ⟨List.replicate (60 + u).toNat 0, q3, Ev.bind e ?_, by simp; omega, hq3⟩
    simp only [e2, Option.bind_some, e3, hw]
    exact evNeg c0 (evNeg c1 (evPos c2 (evPos (by omega) (evPos (by omega) (Ev.now _)))))
  · refine ⟨m, q2, Ev.bind e ?_, by omega, hq2⟩
    simp only [e2, Option.bind_some]
    exact evNeg c0 (evNeg c1 (evNeg c2 (Ev.now _)))

theorem drawOver_ok {l : List Int} (h : Src l) : ∃ m x, Ev (fun k => spec_DrawOver.f k l) (m, x) ∧ m.length ≤ 61 := by
  have e0 : spec_l1Open.f l = some (l, 0) := rfl
  simp -implicitDefEqProofs only [spec_DrawOver.f, e0, Option.bind_some]
  obtain ⟨m, q, e, m1, hq⟩ := draw18_ok h (p := 0) (by unfold At; omega)
  obtain ⟨b, q2, e2, hq2⟩ := once_ok h hq 10 (by omega)
  by_cases c : b = true
  · obtain ⟨v, q3, e3, _, hq3⟩ := number_ok h hq2
    refine ⟨m, v, Ev.bind e ?_, m1⟩
    simp only [e2, Option.bind_some]
    exact evPos c (Ev.bind e3 (Ev.now _))
  · obtain ⟨v, q3, e3, _, _, hq3⟩ := below_ok h hq2 60 (by omega)
    refine ⟨m, wrap64 (v - 20), Ev.bind e ?_, m1⟩
    simp only [e2, Option.bind_some, e3]
    exact evNeg c (Ev.now _)
theorem draw_ok {l : List Int} (h : Src l) : ∃ m x, Ev (fun k => spec_DrawCrps.f k l) (m, x) ∧ m.length ≤ 61 := by
  obtain ⟨m, x, e, m1⟩ := drawOver_ok h
  refine ⟨m, x, ?_, m1⟩
  simp only [spec_DrawCrps.f]
  exact Ev.bind e (Ev.now _)

theorem FnCrps : laws_FnCrps.Pure := by
  intro l _ _ hb
  refine Ev.rounds ?_
  simp only [laws_FnCrps.f, laws_big.f, Option.bind_some]
  by_cases big : decide ((l.length : Int) > 1048576) = true
  · exact evPos big (Ev.now _)
  refine evNeg big ?_
  have h : Src l := ⟨by have := big; simp at this; omega, fun x hx => by have := hb x hx; simp [Lit.wf] at this; exact this⟩
  obtain ⟨m, x, e, m1⟩ := draw_ok h
  refine Ev.bind e (Ev.bind (crps_spec m x (by omega)) (Ev.bind (crps_impl m x (by omega)) (evNeg (by simp) ?_)))
  by_cases ok : okX m x = true
  · have hc : crps m x = V m x := by simp [crps, ok]
    have hV := V_nonneg m x
    simp only [hc]
    refine evNeg (by omega) ?_
    have okm : okM m = true := by simp [okX] at ok; exact ok.1
    obtain ⟨r, r0, r1, hr⟩ := over_ev m x okm
    have hl := (okM_ok okm).l1
    have hl0 := (okM_ok okm).l0
    have main : ∀ j, j ≤ m.length → Ev (fun k => laws_FnCrps.l0 k m x (V m x) ((m.drop j).all (· == x)) (m.drop j).reverse ((j : Int) - 1)) true := by
      intro j
      induction j with
      | zero =>
        intro hj
        have fin : Ev (fun k => (impl_Crps.f k m.reverse x).bind fun t338 => (if t338 = V m x then ((impl_Rank.f k m x).bind fun t339 => ((impl_Over.f k m x).bind fun t340 => (some ((wrap64 (t339 + t340)) == (m.length : Int))))) else (some false))) true := by
          have e1 := crps_impl m.reverse x (by simp; omega)
          have e2 : crps m.reverse x = V m x := by
            have : okX m.reverse x = true := by unfold okX; rw [okM_rev]; exact ok
            simp [crps, this, V_rev]
          rw [e2] at e1
          have e3 : Ev (fun k => impl_Rank.f k m x) ((m.length : Int) - r) := by
            simp only [impl_Rank.f]
            refine Ev.bind hr (evNeg (by omega) ?_)
            rw [w64 (by omega) (by omega)]
            exact Ev.now _
          refine Ev.bind e1 (evPos rfl (Ev.bind e3 (Ev.bind hr ?_)))
          rw [w64 (by omega) (by omega), show (m.length : Int) - r + r = m.length by omega, show ((m.length : Int) == (m.length : Int)) = true by simp]
          exact Ev.now _
        refine Ev.step (fun k => ?_) fin
        simp only [laws_FnCrps.l0, List.drop_zero]
        rw [if_neg (by omega), if_pos ?_]
        by_cases hz : V m x = 0
        · have := (V_zero m x).mp hz
          rw [show (m.all (· == x)) = true by rw [List.all_eq_true]; intro a ha; rw [this a ha]; simp, hz]
          rfl
        · have : ¬ ∀ a ∈ m, a = x := fun h => hz ((V_zero m x).mpr h)
          rw [show (m.all (· == x)) = false by
            rw [← Bool.not_eq_true, List.all_eq_true]
            intro h
            exact this fun a ha => by have := h a ha; simpa using this]
          simp [hz]
      | succ j ih =>
        intro hj
        have hj' : j < m.length := by omega
        have ih := ih (by omega)
        have ed : m.drop j = m.getD j 0 :: m.drop (j + 1) := by
          rw [List.drop_eq_getElem_cons hj', List.getD_eq_getElem?_getD, List.getElem?_eq_getElem hj']; rfl
        rw [ed, List.reverse_cons, List.all_cons] at ih
        have hlen : (m.drop (j + 1)).reverse.length < 17592186044416 := by simp; omega
        refine Ev.step (fun k => ?_) ih
        simp only [laws_FnCrps.l0]
        rw [show ((j + 1 : Nat) : Int) - 1 = (j : Int) by omega, if_pos (by omega), w64 (x := (j : Int) - 1) (by omega) (by omega), rd_nat]
        by_cases ca : ((m.drop (j + 1)).all (· == x)) = true
        · rw [if_pos ca, if_pos (by omega), if_pos (by omega), if_pos hlen, ca, Bool.and_true]
        · rw [if_neg ca, if_pos (by omega), if_pos (by omega), if_pos hlen]
          rw [Bool.not_eq_true] at ca
          rw [ca, Bool.and_false]
    have := main m.length (by omega)
    rw [List.drop_length] at this
    rw [w64 (x := (m.length : Int) - 1) (by omega) (by omega)]
    exact this
  · have hc : crps m x = -1 := by simp [crps, ok]
    simp only [hc]
    exact evPos (by decide) (Ev.now _)

end Go.Proofs.Yteobnbichpadjaa.Pure
