/- The plain statement of the law FnPairs: the program's sums and products of pairs are the reference's, the order of the two doesn't matter, and the product of the mirrored is the mirrored product; no condition. -/
import Derived.Test.YtaophbkedbphnabSigns
import Derived.Test.YtaophbkedbphnabDraw
import Derived.Test.YtaophbkedbphnabQx1
import Derived.Test.YtaophbkedbphnabQx10
import Derived.Test.YtaophbkedbphnabQx11
import Derived.Test.YtaophbkedbphnabQx12
import Derived.Test.YtaophbkedbphnabQx13
import Derived.Test.YtaophbkedbphnabQx14
import Derived.Test.YtaophbkedbphnabQx15
import Derived.Test.YtaophbkedbphnabQx16
import Derived.Test.YtaophbkedbphnabQx17
import Derived.Test.YtaophbkedbphnabQx18
import Derived.Test.YtaophbkedbphnabQx19
import Derived.Test.YtaophbkedbphnabQx2
import Derived.Test.YtaophbkedbphnabQx20
import Derived.Test.YtaophbkedbphnabQx21
import Derived.Test.YtaophbkedbphnabQx22
import Derived.Test.YtaophbkedbphnabQx23
import Derived.Test.YtaophbkedbphnabQx24
import Derived.Test.YtaophbkedbphnabQx25
import Derived.Test.YtaophbkedbphnabQx6
import Derived.Test.YtaophbkedbphnabQx9
set_option linter.unusedVariables false
set_option linter.unusedSimpArgs false
namespace Go.Proofs.Ytaophbkedbphnab.Pure
open Go.RowKit Go.Proofs.Ytaophbkedbphnab.Q Go.Proofs.Ytaophbkedbphnab.Gen Go.Proofs.Ytaophbkedbphnab.Draw Go.Proofs.YtaophbkedbphnabW.PrintWords Go.Proofs.YtaophbkedbphnabW.PrintMore Go.Proofs.YtaophbkedbphnabW.PrintFlt

theorem sine_ok (b : Int) (h0 : 0 ≤ b) (h1 : b ≤ 1000) : ∃ v, spec_l3Sine.f b = some v := by
  unfold spec_l3Sine.f
  rw [Option.bind_some]
  have t0 : 0 ≤ Int.tmod b 36 := Int.tmod_nonneg _ h0
  have t1 : Int.tmod b 36 < 36 := Int.tmod_lt_of_pos _ (by omega)
  rw [w64 (x := Int.tmod b 36 + 36) (by omega) (by omega)]
  have m0 : 0 ≤ Int.tmod (Int.tmod b 36 + 36) 36 := Int.tmod_nonneg _ (by omega)
  have m1 : Int.tmod (Int.tmod b 36 + 36) 36 < 36 := Int.tmod_lt_of_pos _ (by omega)
  revert m0 m1
  generalize Int.tmod (Int.tmod b 36 + 36) 36 = m
  intro m0 m1
  have hlen : ∀ (l : List Nat), l.length = 10 → ∀ x : Int, 0 ≤ x → x ≤ 9 → x < (l.length : Int) := by intro l h x _ _; rw [h]; omega
  rw [w64 (x := 18 - m) (by omega) (by omega), w64 (x := m - 18) (by omega) (by omega), w64 (x := 36 - m) (by omega) (by omega)]
  by_cases c1 : m ≤ 9
  · rw [if_pos c1, if_pos m0, if_pos (hlen _ rfl _ m0 c1)]
    exact ⟨_, rfl⟩
  rw [if_neg c1]
  by_cases c2 : m ≤ 18
  · rw [if_pos c2, if_pos (by omega), if_pos (hlen _ rfl _ (by omega) (by omega))]
    exact ⟨_, rfl⟩
  rw [if_neg c2]
  by_cases c3 : m ≤ 27
  · rw [if_pos c3, if_pos (by omega), if_pos (hlen _ rfl _ (by omega) (by omega))]
    exact ⟨_, rfl⟩
  rw [if_neg c3, if_pos (by omega), if_pos (hlen _ rfl _ (by omega) (by omega))]
  exact ⟨_, rfl⟩
theorem turn_ok (b : Int) (h0 : 0 ≤ b) (h1 : b < 40) : ∃ v w, spec_Turn.f b = some (v, w) := by
  unfold spec_Turn.f
  have t0 : 0 ≤ Int.tmod b 36 := Int.tmod_nonneg _ h0
  have t1 : Int.tmod b 36 < 36 := Int.tmod_lt_of_pos _ (by omega)
  rw [w64 (x := Int.tmod b 36 + 9) (by omega) (by omega)]
  obtain ⟨v, hv⟩ := sine_ok (Int.tmod b 36 + 9) (by omega) (by omega)
  obtain ⟨w, hw⟩ := sine_ok b h0 (by omega)
  rw [hv, Option.bind_some, hw, Option.bind_some]
  exact ⟨_, _, rfl⟩
theorem float_ok {l : List Int} (h : Src l) {p : Int} (hp : At l p) : ∃ v q, Ev (fun k => spec_l1Rd_float.f k l p) (v, q) ∧ At l q := by
  simp only [spec_l1Rd_float.f]
  obtain ⟨v, q, e, v0, v1, hq⟩ := below_ok h hp 8 (by omega)
  simp only [e, Option.bind_some, spec_l1None.f]
  by_cases c0 : v = 0
  · exact ⟨_, _, evPos c0 (Ev.now _), hq⟩
  by_cases c1 : v = 1
  · obtain ⟨u, q', e', u0, u1, hq'⟩ := below_ok h hq 16 (by omega)
    simp only [e', Option.bind_some]
    exact ⟨_, _, evNeg c0 (evPos c1 (evPos u0 (evPos (by simpa using u1) (Ev.now _)))), hq'⟩
  by_cases c2 : v = 2
  · obtain ⟨x, q', e', _, hq'⟩ := number_ok h hq
    obtain ⟨u, q2, e2, u0, u1, hq2⟩ := below_ok h hq' 1000 (by omega)
    refine ⟨fdiv (foi x) (foi (wrap64 (1 + u))), q2, evNeg c0 (evNeg c1 (evPos c2 (Ev.bind e' ?_))), hq2⟩
    simp only [e2, Option.bind_some]
    exact Ev.now _
  by_cases c3 : v = 3
  · obtain ⟨u, q', e', u0, u1, hq'⟩ := below_ok h hq 1000 (by omega)
    simp only [e', Option.bind_some]
    exact ⟨_, _, evNeg c0 (evNeg c1 (evNeg c2 (evPos c3 (Ev.now _)))), hq'⟩
  · obtain ⟨u, q', e', u0, u1, hq'⟩ := below_ok h hq 1000 (by omega)
    simp only [e', Option.bind_some]
    exact ⟨_, _, evNeg c0 (evNeg c1 (evNeg c2 (evNeg c3 (Ev.now _)))), hq'⟩
theorem pair_ok {l : List Int} (h : Src l) {p : Int} (hp : At l p) : ∃ v w q, Ev (fun k => spec_l1Rd_pair.f k l p) (v, w, q) ∧ At l q := by
  simp only [spec_l1Rd_pair.f]
  obtain ⟨v, q, e, hq⟩ := float_ok h hp
  obtain ⟨b, q2, e2, hq2⟩ := once_ok h hq 2 (by omega)
  cases b with
  | true =>
    obtain ⟨u, q3, e3, u0, u1, hq3⟩ := below_ok h hq2 40 (by omega)
    obtain ⟨x, y, e4⟩ := turn_ok u u0 u1
    refine ⟨x, y, q3, Ev.bind e ?_, hq3⟩
    simp only [e2, Option.bind_some, e3, e4]
    exact evPos (by trivial) (Ev.now _)
  | false =>
    obtain ⟨w, q3, e3, hq3⟩ := float_ok h hq2
    refine ⟨v, w, q3, Ev.bind e ?_, hq3⟩
    simp only [e2, Option.bind_some]
    exact evNeg (by first | decide | simp) (Ev.bind e3 (Ev.now _))
theorem draw_ok {l : List Int} (h : Src l) : ∃ a b c d, Ev (fun k => spec_DrawMulPair.f k l) (a, b, c, d) := by
  simp only [spec_DrawMulPair.f, spec_DrawAddPair.f, spec_l1Open.f, Option.bind_some]
  obtain ⟨a, b, q, e, hq⟩ := pair_ok h (p := 0) (by unfold At; omega)
  obtain ⟨c, d, q2, e2, hq2⟩ := pair_ok h hq
  exact ⟨a, b, c, d, Ev.bind (Ev.bind e (Ev.bind e2 (Ev.now _))) (Ev.now _)⟩
theorem minus_ok (x : Nat) : ∃ b, spec_l1Minus.f x = some b := by
  unfold spec_l1Minus.f
  split
  · exact ⟨_, rfl⟩
  · split <;> exact ⟨_, rfl⟩
theorem same_ev (x : Nat) : Ev (fun k => spec_Same.f k x x) true := by
  have hj : Ev (fun k => spec_Same.j0 k x x (fne x x)) true := by
    refine Ev_succ fun k => ?_
    simp only [spec_Same.j0]
    cases h : fne x x with
    | true => rw [if_pos rfl, if_pos rfl]
    | false =>
      rw [if_neg (by decide)]
      have h2 : feq x x = true := by rw [fne_eq] at h; simpa using h
      obtain ⟨b, hb⟩ := minus_ok x
      rw [if_pos h2, hb, Option.bind_some, Option.bind_some, beq_self_eq_true]
  simp only [spec_Same.f]
  by_cases h : fne x x = true
  · rw [h] at hj
    exact evPos h hj
  · exact evNeg h hj
theorem known_eq (x y : Nat) : laws_known.f x y = some (fin x && fin y) := by
  unfold laws_known.f spec_Known.f
  rw [known1, known1, Option.bind_some]
  cases fin x <;> rfl
theorem j2_ok (a b c d : Nat) (x : Bool) (h : x = false → ((fin a && fin b) = true ∧ (fin c && fin d) = true ∧ (fin (fsub (fmul a c) (fmul b d)) && fin (fadd (fmul a d) (fmul b c))) = true)) : Ev (fun k => laws_FnPairs.j2 k x a b c d (fsub (fmul a c) (fmul b d)) (fadd (fmul a d) (fmul b c))) true := by
  refine Ev_succ fun k => ?_
  simp only [laws_FnPairs.j2]
  cases x with
  | true => rw [if_pos rfl]
  | false =>
    obtain ⟨h1, h2, h3⟩ := h rfl
    rw [Bool.and_eq_true] at h1 h2 h3
    rw [if_neg (by decide)]
    simp only [impl_ConjPair.f, impl_MulPair.f, laws_equal.f, Option.bind_some]
    rw [conj_re h1.2 h2.2 h3.1, if_pos rfl, conj_im h1.1 h1.2 h2.2 h2.1 h3.2, Option.bind_some]

theorem FnPairs : laws_FnPairs.Pure := by
  intro l _ _ hb
  refine Ev.rounds ?_
  simp only [laws_FnPairs.f, laws_big.f, Option.bind_some]
  by_cases big : decide ((l.length : Int) > 1048576) = true
  · exact evPos big (Ev.now _)
  refine evNeg big ?_
  have h : Src l := ⟨by have := big; simp at this; omega, fun x hx => by have := hb x hx; simp [Lit.wf] at this; exact this⟩
  obtain ⟨a, b, c, d, e⟩ := draw_ok h
  refine Ev.bind e ?_
  simp only [impl_MulPair.f, impl_AddPair.f, spec_MulPair.f, spec_AddPair.f, Option.bind_some]
  rw [fmul_comm c a, fmul_comm d b, fmul_comm c b, fmul_comm d a, fadd_comm (fmul b c) (fmul a d), fadd_comm c a, fadd_comm d b]
  refine Ev.bind (same_ev _) (evPos rfl (Ev.bind (same_ev _) (evPos rfl (Ev.bind (same_ev _) (evPos rfl (Ev.bind (same_ev _) ?_))))))
  refine Ev.step (fun k => laws_FnPairs.j0.eq_2 _ _ _ _ _ _ _ _ _ _ _ _ _ _ _ k) (evNeg (by decide) ?_)
  refine Ev.bind (same_ev _) (evPos rfl (Ev.bind (same_ev _) (evPos rfl (Ev.bind (same_ev _) (evPos rfl (Ev.bind (same_ev _) ?_))))))
  refine Ev.step (fun k => laws_FnPairs.j1.eq_2 _ _ _ _ _ _ _ _ _ k) (evNeg (by decide) ?_)
  simp only [known_eq, Option.bind_some]
  cases h1 : (fin a && fin b) with
  | false => exact evNeg (by decide) (j2_ok a b c d true (fun h => by cases h))
  | true =>
    refine evPos rfl ?_
    cases h2 : (fin c && fin d) with
    | false => exact evNeg (by decide) (j2_ok a b c d true (fun h => by cases h))
    | true =>
      refine evPos rfl (j2_ok a b c d _ (fun h => ⟨h1, h2, ?_⟩))
      simpa using h
end Go.Proofs.Ytaophbkedbphnab.Pure
