/- The plain statement of the law FnWinds: the mean of one drawn wind is the wind; that of it and the wind against it, as strong, is none; no condition. -/
import Derived.Test.YtpileeenoocjpaaDoorMeanL
import Derived.Test.YtpileeenoocjpaaDoorFinMul
import Derived.Test.YtpileeenoocjpaaDoorDrawF
import Derived.Test.YtpileeenoocjpaaDoorQx3
import Derived.Test.YtpileeenoocjpaaDoorQx4
import Derived.Test.YtpileeenoocjpaaDoorQx5
import Derived.Test.YtpileeenoocjpaaDoorQx6
import Derived.Test.YtpileeenoocjpaaDoorQx7
import Derived.Test.YtpileeenoocjpaaDoorQx8
import Derived.Test.YtpileeenoocjpaaDoorQx9
set_option linter.unusedVariables false
set_option linter.unusedSimpArgs false
namespace Go.Proofs.YtpileeenoocjpaaDoor.Pure
open Go.RowKit Go.Proofs.YtpileeenoocjpaaDoor.Q Go.Proofs.YtpileeenoocjpaaDoor.Gen Go.Proofs.YtpileeenoocjpaaDoor.Draw Go.Proofs.YtpileeenoocjpaaDoorW.PrintWords Go.Proofs.YtpileeenoocjpaaDoorW.PrintMore Go.Proofs.YtpileeenoocjpaaDoorW.PrintFlt

/-! what is drawn -/
theorem ev_of {α : Type} {x : Option α} {v : α} (h : x = some v) : Ev (fun _ => x) v := by rw [h]; exact Ev.now _
theorem float_ok {l : List Int} (h : Src l) {p : Int} (hp : At l p) : ∃ v q, Ev (fun k => spec_l1Rd_float.f k l p) (v, q) ∧ At l q := by
  simp only [spec_l1Rd_float.f]
  obtain ⟨v, q, e, v0, v1, hq⟩ := below_ok h hp 8 (by omega)
  by_cases c0 : v = 0
  · exact ⟨fdiv 0 0, q, Ev.bind (ev_of e) (evPos c0 (Ev.bind (ev_of (rfl : spec_l1None.f = some (fdiv 0 0))) (Ev.now _))), hq⟩
  by_cases c1 : v = 1
  · obtain ⟨u, q', e', u0, u1, hq'⟩ := below_ok h hq 16 (by omega)
    exact ⟨_, q', Ev.bind (ev_of e) (evNeg c0 (evPos c1 (Ev.bind (Ev.now _) (Ev.bind (ev_of e') (evPos u0 (evPos (show u < 16 from u1) (Ev.now _))))))), hq'⟩
  by_cases c2 : v = 2
  · obtain ⟨x, q', e', _, hq'⟩ := number_ok h hq
    obtain ⟨u, q2, e2, u0, u1, hq2⟩ := below_ok h hq' 1000 (by omega)
    exact ⟨_, q2, Ev.bind (ev_of e) (evNeg c0 (evNeg c1 (evPos c2 (Ev.bind e' (Ev.bind (ev_of e2) (Ev.now _)))))), hq2⟩
  by_cases c3 : v = 3
  · obtain ⟨u, q', e', u0, u1, hq'⟩ := below_ok h hq 1000 (by omega)
    exact ⟨_, q', Ev.bind (ev_of e) (evNeg c0 (evNeg c1 (evNeg c2 (evPos c3 (Ev.bind (ev_of e') (Ev.now _)))))), hq'⟩
  · obtain ⟨u, q', e', u0, u1, hq'⟩ := below_ok h hq 1000 (by omega)
    exact ⟨_, q', Ev.bind (ev_of e) (evNeg c0 (evNeg c1 (evNeg c2 (evNeg c3 (Ev.bind (ev_of e') (Ev.now _)))))), hq'⟩
theorem wind_j1 {l : List Int} (h : Src l) {p : Int} (hp : At l p) (a : Int) (x : Nat) : ∃ a' x' q, Ev (fun k => spec_l1Rd_wind.j1 k l p a x) (a', x', q) := by
  obtain ⟨b, q, e, hq⟩ := once_ok h hp 20 (by omega)
  cases b with
  | true =>
    obtain ⟨n, q', e', _, _⟩ := number_ok h hq
    exact ⟨_, _, _, Ev.step (fun k => spec_l1Rd_wind.j1.eq_2 _ _ _ _ k) (Ev.bind (ev_of e) (evPos rfl (Ev.bind e' (Ev.now _))))⟩
  | false => exact ⟨_, _, _, Ev.step (fun k => spec_l1Rd_wind.j1.eq_2 _ _ _ _ k) (Ev.bind (ev_of e) (evNeg (by simp) (Ev.now _)))⟩
theorem wind_j0 {l : List Int} (h : Src l) {p : Int} (hp : At l p) (a : Int) (x : Nat) : ∃ a' x' q, Ev (fun k => spec_l1Rd_wind.j0 k l p a x) (a', x', q) := by
  obtain ⟨b, q, e, hq⟩ := once_ok h hp 12 (by omega)
  cases b with
  | true =>
    obtain ⟨v, q', e', hq'⟩ := float_ok h hq
    obtain ⟨a', x', q2, e2⟩ := wind_j1 h hq' a v
    exact ⟨_, _, _, Ev.step (fun k => spec_l1Rd_wind.j0.eq_2 _ _ _ _ k) (Ev.bind (ev_of e) (evPos rfl (Ev.bind e' e2)))⟩
  | false =>
    obtain ⟨a', x', q2, e2⟩ := wind_j1 h hq a x
    exact ⟨_, _, _, Ev.step (fun k => spec_l1Rd_wind.j0.eq_2 _ _ _ _ k) (Ev.bind (ev_of e) (evNeg (by simp) e2))⟩
theorem draw_ok {l : List Int} (h : Src l) : ∃ a x, Ev (fun k => spec_DrawWindPair.f k l) (a, x) := by
  simp only [spec_DrawWindPair.f, spec_l1Rd_wind.f]
  have e0 : Ev (fun _ : Nat => spec_l1Open.f l) (l, 0) := Ev.now _
  obtain ⟨v1, q1, e1, a1, b1, h1⟩ := below_ok h (p := 0) ⟨by omega, by omega⟩ 37 (by omega)
  obtain ⟨v2, q2, e2, a2, b2, h2⟩ := below_ok h h1 400 (by omega)
  by_cases c : v1 = 0
  · obtain ⟨a', x', q', e'⟩ := wind_j0 h h2 v1 0
    exact ⟨_, _, Ev.bind e0 (Ev.bind (Ev.bind (ev_of e1) (Ev.bind (ev_of e2) (evPos c e'))) (Ev.now _))⟩
  · obtain ⟨a', x', q', e'⟩ := wind_j0 h h2 v1 (fdiv (foi (wrap64 (1 + v2))) 4621819117588971520)
    exact ⟨_, _, Ev.bind e0 (Ev.bind (Ev.bind (ev_of e1) (Ev.bind (ev_of e2) (evNeg c e'))) (Ev.now _))⟩

/-! directions: of at most one, and against each other -/
def trn (a : Int) : Nat × Nat := (spec_Turn.f a).getD (0, 0)
theorem prW_trn (a : Int) (x : Nat) (h : wOk a x = true) : prW a x = (fsub 0 (fmul x (trn a).2), fsub 0 (fmul x (trn a).1)) := by
  have e := pr_spec a x
  obtain ⟨c, s, e1, _⟩ := turn_both a
  have et : trn a = (c, s) := by unfold trn; rw [e1]; rfl
  unfold spec_WindPair.f at e
  rw [wOk_spec, h, e1] at e
  rw [et]
  exact (Option.some.inj e).symm
def oppB (x y : Nat) : Bool := match Ieee.double.read x, Ieee.double.read y with
  | .number s m e, .number t n j => decide (m = n) && (decide (e = j) && (decide (m = 0) || (t == !s)))
  | _, _ => false
theorem opp_of_B {x y : Nat} (h : oppB x y = true) : Opp (Ieee.double.read x) (Ieee.double.read y) := by
  unfold oppB at h
  split at h
  · rename_i s m e t n j e1 e2
    rw [e1, e2]
    simp only [Bool.and_eq_true, Bool.or_eq_true, decide_eq_true_eq, beq_iff_eq] at h
    exact h
  · cases h
def anti (a : Int) : Int := wrap64 (Int.tmod (wrap64 (a + 17)) 36 + 1)
theorem dirs_fin : ∀ n : Fin 37, small (trn ((n : Nat) : Int)).1 = true ∧ small (trn ((n : Nat) : Int)).2 = true ∧ ((n : Nat) = 0 ∨ (oppB (trn ((n : Nat) : Int)).1 (trn (anti ((n : Nat) : Int))).1 = true ∧ oppB (trn ((n : Nat) : Int)).2 (trn (anti ((n : Nat) : Int))).2 = true ∧ 1 ≤ anti ((n : Nat) : Int) ∧ anti ((n : Nat) : Int) ≤ 36)) := by decide +kernel
theorem mean_ev (l : List S54) (hl : l.length ≤ 2) : Ev (fun k => impl_MeanWind.f k l sinT) (resM (l.foldl stepM (0, 0, 0))) := by
  have := impl_loop l (by omega) l.length 0 0 0 0 (by omega)
  rw [if_pos (by omega), List.drop_zero] at this
  exact this
theorem stepM_ok {s : Int × Nat × Nat} {e : S54} (h : wOk e.f0 e.f1 = true) (n : Int) (hn : wrap64 (s.1 + 1) = n) : stepM s e = (n, fadd s.2.1 (prW e.f0 e.f1).1, fadd s.2.2 (prW e.f0 e.f1).2) := by
  unfold stepM
  rw [if_pos h, hn]
theorem same_self (x : Nat) : Ev (fun k => spec_Same.f k x x) true := by
  have hj : Ev (fun k => spec_Same.j0 k x x (fne x x)) true := by
    refine Ev.step (fun k => spec_Same.j0.eq_2 _ _ _ k) ?_
    cases h : fne x x with
    | true => exact evPos rfl (evPos rfl (Ev.now _))
    | false =>
      have h2 : feq x x = true := by rw [fne_eq] at h; simpa using h
      have hm : ∃ b, spec_l1Minus.f x = some b := by
        unfold spec_l1Minus.f
        split
        · exact ⟨_, rfl⟩
        · split <;> exact ⟨_, rfl⟩
      obtain ⟨b, hb⟩ := hm
      refine evNeg (by decide) (evPos h2 ?_)
      rw [hb]
      have : (b == b) = true := by simp
      exact Ev.bind (Ev.now _) (Ev.bind (Ev.now _) (by rw [this]; exact Ev.now _))
  simp only [spec_Same.f]
  by_cases h : fne x x = true
  · rw [h] at hj
    exact evPos h hj
  · exact evNeg h hj
theorem equal_ev {a b c d : Nat} (h1 : feq a c = true) (h2 : feq b d = true) : Ev (fun _ : Nat => laws_equal.f a b c d) true := by
  unfold laws_equal.f
  rw [if_pos h1, h2]
  exact Ev.now _
theorem foi1 : foi 1 = 4607182418800017408 := by decide +kernel
/-- Nought and a number, divided by one. -/
theorem alone {y : Nat} (hy : fin y = true) : feq (fdiv (fadd 0 y) 4607182418800017408) y = true ∧ fin (fadd 0 y) = true ∧ Sam (Ieee.double.read y) (Ieee.double.read (fadd 0 y)) := by
  obtain ⟨s, m, e, ey⟩ := fin_read hy
  have h := sam_add ey (z := 0) ⟨false, by decide +kernel⟩
  rw [fadd_comm] at h
  have hf : fin (fadd 0 y) = true := by
    have h' := h
    rw [ey] at h'
    revert h'
    cases hr : Ieee.double.read (fadd 0 y) with
    | number t n j => exact fun _ => fin_of hr
    | infinity t => exact fun h => h.elim
    | nan t f => exact fun h => h.elim
  exact ⟨feq_sam (sam_symm (sam_trans h (div_one hf))), hf, h⟩
/-- A wind and the wind against it. -/
theorem against {x s s' : Nat} (hx : fin x = true) (hs : small s = true) (hs2 : fin s = true) (ho : Opp (Ieee.double.read s) (Ieee.double.read s')) : feq (fdiv (fadd (fadd 0 (fsub 0 (fmul x s))) (fsub 0 (fmul x s'))) (foi 2)) 0 = true := by
  have hy := mul_small hx hs
  have hp := opp_fin hy
  have h1 := opp_mul hx hs2 ho
  have hq : fin (fsub 0 (fmul x s)) = true := by
    obtain ⟨a, m, e, ey⟩ := fin_read hy
    rw [ey] at hp
    revert hp
    cases hr : Ieee.double.read (fsub 0 (fmul x s)) with
    | number t n j => exact fun _ => fin_of hr
    | infinity t => exact fun h => h.elim
    | nan t f => exact fun h => h.elim
  have hy2 : fin (fmul x s') = true := by
    obtain ⟨a, m, e, ey⟩ := fin_read hy
    rw [ey] at h1
    revert h1
    cases hr : Ieee.double.read (fmul x s') with
    | number t n j => exact fun _ => fin_of hr
    | infinity t => exact fun h => h.elim
    | nan t f => exact fun h => h.elim
  have hp2 := opp_fin hy2
  obtain ⟨_, hu, hsam⟩ := alone hq
  -- 0 - y stands against y; 0 - y' against y', and y' against y: so 0 - y' is as y
  have hyq : Sam (Ieee.double.read (fmul x s)) (Ieee.double.read (fsub 0 (fmul x s'))) := opp_sam (opp_symm h1) hp2
  have ho2 : Opp (Ieee.double.read (fsub 0 (fmul x s))) (Ieee.double.read (fsub 0 (fmul x s'))) := opp_symm (opp_of_sam hyq hp)
  have hz := opp_zero hu (opp_of_sam hsam ho2)
  exact zer_feq (zer_div hz (y := foi 2) (s := false) (n := 4503599627370496) (e := -51) (by decide +kernel) (by decide))

theorem FnWinds : laws_FnWinds.Pure := by
  intro l hl0 hb
  refine Ev.rounds ?_
  show Ev (fun k => laws_FnWinds.f k l sinT) true
  simp only [laws_FnWinds.f]
  have eb : Ev (fun _ : Nat => laws_big.f l) (decide ((l.length : Int) > 1048576)) := Ev.now _
  refine Ev.bind eb ?_
  by_cases big : decide ((l.length : Int) > 1048576) = true
  · exact evPos big (Ev.now _)
  refine evNeg big ?_
  have h : Src l := ⟨by have := big; simp at this; omega, fun x hx => by have := hb x hx; simp [Lit.wf] at this; exact this⟩
  obtain ⟨a, x, e⟩ := draw_ok h
  have one := mean_ev [⟨a, x⟩] (by simp)
  refine Ev.bind e (Ev.bind (ev_of (pr_spec a x)) (Ev.bind one (Ev.bind (ev_of (pr_impl a x)) (Ev.bind (same_self _) (evPos rfl ?_)))))
  rw [known_spec]
  refine Ev.bind (Ev.now _) ?_
  by_cases ok : wOk a x = true
  rotate_left
  · have hp : prW a x = (qnan, qnan) := by
      have e := pr_spec a x
      unfold spec_WindPair.f at e
      rw [Bool.not_eq_true] at ok
      rw [wOk_spec, ok, none_q] at e
      exact (Option.some.inj e).symm
    have ho : resM ([(⟨a, x⟩ : S54)].foldl stepM (0, 0, 0)) = (qnan, qnan) := by
      have : [(⟨a, x⟩ : S54)].foldl stepM (0, 0, 0) = (0, 0, 0) := if_neg ok
      rw [this]
      rfl
    have hf : fin qnan = false := by decide +kernel
    rw [hp, ho]
    dsimp only
    rw [hf]
    refine Ev.step (fun k => laws_FnWinds.j0.eq_2 _ _ _ _ _ _ _ _ k) (evPos rfl ?_)
    rw [known_spec, hf]
    exact Ev.bind (Ev.now _) (evNeg (by decide) (Ev.bind (Ev.now _) (evNeg (by decide) (Ev.bind (Ev.now _) (Ev.now _)))))
  have hok := ok
  simp only [wOk, Bool.and_eq_true, inS_iff] at hok
  obtain ⟨⟨a0, a1⟩, hx, hge, hd⟩ := hok
  obtain ⟨n, rfl⟩ := Int.eq_ofNat_of_zero_le a0
  obtain ⟨sm1, sm2, hopp⟩ := dirs_fin ⟨n, by omega⟩
  dsimp only at sm1 sm2 hopp
  have hpr := prW_trn (n : Int) x ok
  have f1 : fin (fsub 0 (fmul x (trn (n : Int)).2)) = true := opp_fin_fin (mul_small hx sm2)
  have f2 : fin (fsub 0 (fmul x (trn (n : Int)).1)) = true := opp_fin_fin (mul_small hx sm1)
  have ho : resM ([(⟨(n : Int), x⟩ : S54)].foldl stepM (0, 0, 0)) = (fdiv (fadd 0 (prW (n : Int) x).1) 4607182418800017408, fdiv (fadd 0 (prW (n : Int) x).2) 4607182418800017408) := by
    have : [(⟨(n : Int), x⟩ : S54)].foldl stepM (0, 0, 0) = (1, fadd 0 (prW (n : Int) x).1, fadd 0 (prW (n : Int) x).2) := stepM_ok (e := ⟨(n : Int), x⟩) ok 1 (by decide +kernel)
    rw [this, ← foi1]
    rfl
  rw [ho, hpr]
  dsimp only
  rw [f1]
  refine Ev.step (fun k => laws_FnWinds.j0.eq_2 _ _ _ _ _ _ _ _ k) (evNeg (by decide) (Ev.bind (equal_ev (alone f1).1 (alone f2).1) (evPos rfl ?_)))
  by_cases n0 : n = 0
  · subst n0
    have hz : Zer x := zer_of_feq hx (by simpa using hd)
    have z : ∀ s, small s = true → feq (fdiv (fadd 0 (fsub 0 (fmul x s))) 4607182418800017408) 0 = true := fun s hs => by
      obtain ⟨t, m, j, es⟩ := fin_read (small_fin hs)
      have h1 : Zer (fmul x s) := by rw [fmul_comm]; exact zer_mul es hz
      obtain ⟨t2, h2⟩ := zer_sub h1
      have h3 := (alone (zer_fin (zer_sub h1))).1
      have h4 := zer_sam_zer (zer_sub h1) (alone (zer_fin (zer_sub h1))).2.2
      exact zer_feq (zer_div h4 (y := 4607182418800017408) (s := false) (n := 4503599627370496) (e := -52) (by decide +kernel) (by decide))
    exact evPos rfl (Ev.bind (equal_ev (z _ sm2) (z _ sm1)) (Ev.now _))
  · rcases hopp with h | ⟨o1, o2, r1, r2⟩
    · exact absurd h n0
    refine evNeg (by omega) ?_
    have hn0 : feq x 0 = false := by
      have : (((n : Int) == 0) : Bool) = false := by rw [beq_eq_false_iff_ne]; omega
      rw [this] at hd
      simpa using hd
    have ok2 : wOk (anti (n : Int)) x = true := by
      have : ((anti (n : Int) == 0) : Bool) = false := by rw [beq_eq_false_iff_ne]; omega
      simp only [wOk, Bool.and_eq_true, inS_iff]
      refine ⟨⟨by omega, r2⟩, hx, hge, ?_⟩
      rw [this, hn0]
      rfl
    have two := mean_ev [⟨(n : Int), x⟩, ⟨anti (n : Int), x⟩] (by simp)
    have ho2 : resM ([(⟨(n : Int), x⟩ : S54), ⟨anti (n : Int), x⟩].foldl stepM (0, 0, 0)) = (fdiv (fadd (fadd 0 (prW (n : Int) x).1) (prW (anti (n : Int)) x).1) (foi 2), fdiv (fadd (fadd 0 (prW (n : Int) x).2) (prW (anti (n : Int)) x).2) (foi 2)) := by
      have h1 : stepM (0, 0, 0) ⟨(n : Int), x⟩ = (1, fadd 0 (prW (n : Int) x).1, fadd 0 (prW (n : Int) x).2) := stepM_ok (e := ⟨(n : Int), x⟩) ok 1 (by decide +kernel)
      have h2 : stepM (1, fadd 0 (prW (n : Int) x).1, fadd 0 (prW (n : Int) x).2) ⟨anti (n : Int), x⟩ = (2, fadd (fadd 0 (prW (n : Int) x).1) (prW (anti (n : Int)) x).1, fadd (fadd 0 (prW (n : Int) x).2) (prW (anti (n : Int)) x).2) := stepM_ok (s := (1, fadd 0 (prW (n : Int) x).1, fadd 0 (prW (n : Int) x).2)) (e := ⟨anti (n : Int), x⟩) ok2 2 (show wrap64 (1 + 1) = 2 by decide +kernel)
      rw [List.foldl_cons, h1, List.foldl_cons, h2, List.foldl_nil]
      rfl
    rw [ho2, hpr, prW_trn _ x ok2] at two
    refine Ev.bind two (Ev.bind (equal_ev ?_ ?_) (Ev.now _))
    · exact against hx sm2 (small_fin sm2) (opp_of_B o2)
    · exact against hx sm1 (small_fin sm1) (opp_of_B o1)
end Go.Proofs.YtpileeenoocjpaaDoor.Pure
