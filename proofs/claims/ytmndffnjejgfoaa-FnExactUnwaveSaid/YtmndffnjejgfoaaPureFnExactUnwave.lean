/- The plain statement of the law FnExactUnwave: program and reference undo the same steps of every list, and hand back a list of their own; no condition. -/
import Derived.Test.YtmndffnjejgfoaaI64
import Derived.Test.YtmndffnjejgfoaaInAll
import Derived.Test.YtmndffnjejgfoaaQx1
import Derived.Test.YtmndffnjejgfoaaQx12
import Derived.Test.YtmndffnjejgfoaaQx3
import Derived.Test.YtmndffnjejgfoaaQx6
import Derived.Test.YtmndffnjejgfoaaQx7
import Derived.Test.YtmndffnjejgfoaaQx8
set_option linter.unusedVariables false
set_option linter.unusedSimpArgs false
namespace Go.Proofs.Ytmndffnjejgfoaa.Pure
open Go.RowKit Go.Proofs.Ytmndffnjejgfoaa.Q Go.Proofs.Ytmndffnjejgfoaa.Gen Go.Proofs.YtmndffnjejgfoaaW.PrintWords Go.Proofs.YtmndffnjejgfoaaW.PrintMore

def small (l : List Int) : Bool := l.all fun x => inS x (-1152921504606846976) 1152921504606846976
theorem in_lo {x : Int} (h : x < -1152921504606846976) : inS x (-1152921504606846976) 1152921504606846976 = false := by
  unfold inS
  rw [decide_eq_false (by omega)]
  rfl
theorem in_hi {x : Int} (h : x > 1152921504606846976) : inS x (-1152921504606846976) 1152921504606846976 = false := by
  unfold inS
  rw [decide_eq_false (p := x ≤ 1152921504606846976) (by omega), Bool.and_false]
theorem in_mid {x : Int} (h : ¬ x < -1152921504606846976) (h2 : ¬ x > 1152921504606846976) : inS x (-1152921504606846976) 1152921504606846976 = true := (inS_iff _ _ _).2 ⟨by omega, by omega⟩
theorem small_spec (l : List Int) (h : l.length ≤ 4096) : Ev (fun k => spec_l8Small.f k l 60) (small l) := by
  simp only [spec_l8Small.f]
  refine evNeg (by omega) ?_
  have hs : shl .i64 1 60 = 1152921504606846976 := by decide +kernel
  have := scan (fun k i => spec_l8Small.l0 k l 60 i) l.length (fun j => small (l.drop j)) ?_ ?_ 0 (by omega)
  · simpa using this
  · intro j hj
    have e : small (l.drop j) = (inS (l.getD j 0) (-1152921504606846976) 1152921504606846976 && small (l.drop (j + 1))) := all_drop l _ 0 j hj
    simp only [e]
    have hw : wrap64 (-1152921504606846976) = -1152921504606846976 := by decide +kernel
    by_cases c1 : l.getD j 0 < -1152921504606846976
    · refine .inr (Ev_succ fun k => ?_)
      simp only [spec_l8Small.l0]
      rw [if_pos (by omega), if_pos (by omega), if_pos (by omega), rd_nat, hs, hw, if_pos c1]
      rw [in_lo c1]
      rfl
    · by_cases c2 : l.getD j 0 > 1152921504606846976
      · refine .inr (Ev_succ fun k => ?_)
        simp only [spec_l8Small.l0]
        rw [if_pos (by omega), if_pos (by omega), if_pos (by omega), rd_nat, hs, hw, if_neg c1, if_pos c2]
        rw [in_hi c2]
        rfl
      · refine .inl ⟨by rw [in_mid c1 c2, Bool.true_and], 0, fun k _ => ?_⟩
        simp only [spec_l8Small.l0]
        rw [if_pos (by omega), if_pos (by omega), if_pos (by omega), rd_nat, hs, hw, if_neg c1, if_neg c2, up1 (by omega)]
  · refine Ev_succ fun k => ?_
    simp only [spec_l8Small.l0]
    rw [if_neg (by omega)]
    simp [small]
theorem small_impl (l : List Int) (h : l.length ≤ 4096) : Ev (fun k => impl_within.f k l 1152921504606846976) (small l) := by
  simp only [impl_within.f]
  refine evNeg (by omega) ?_
  have hw : wrap64 (-1152921504606846976) = -1152921504606846976 := by decide +kernel
  have := scan (fun k i => impl_within.l0 k 1152921504606846976 l (l.length : Int) i) l.length (fun j => small (l.drop j)) ?_ ?_ 0 (by omega)
  · simpa using this
  · intro j hj
    have e : small (l.drop j) = (inS (l.getD j 0) (-1152921504606846976) 1152921504606846976 && small (l.drop (j + 1))) := all_drop l _ 0 j hj
    simp only [e]
    by_cases hb : inS (l.getD j 0) (-1152921504606846976) 1152921504606846976 = true
    · refine .inl ⟨by rw [hb, Bool.true_and], 0, fun k _ => ?_⟩
      simp only [impl_within.l0]
      rw [if_pos (by omega), if_pos (by omega), if_pos (by omega), rd_nat, hw, in_s, hb, Option.bind_some, if_pos rfl, up1 (by omega)]
    · rw [Bool.not_eq_true] at hb
      refine .inr (Ev_succ fun k => ?_)
      simp only [impl_within.l0]
      rw [if_pos (by omega), if_pos (by omega), if_pos (by omega), rd_nat, hw, in_s, hb]
      rfl
  · refine Ev_succ fun k => ?_
    simp only [impl_within.l0]
    rw [if_neg (by omega)]
    simp [small]
theorem small_append (a b : List Int) : small (a ++ b) = (small a && small b) := by simp [small]
theorem small_of_drop (a : List Int) (m : Nat) (h : small a = true) : small (a.drop m) = true := by
  unfold small at h ⊢
  rw [List.all_eq_true] at h ⊢
  exact fun x hx => h x (List.mem_of_mem_drop hx)

def nx (x : List Int) (m : Nat) : Nat → Nat → List Int → List Int
  | 0, _, o => o
  | t + 1, i, o => nx x m t (i + 1) (o ++ [wrap64 (rd x (i : Int) - rd x (((m + 1) / 2 + i : Nat) : Int) / 2), wrap64 (wrap64 (rd x (i : Int) - rd x (((m + 1) / 2 + i : Nat) : Int) / 2) + rd x (((m + 1) / 2 + i : Nat) : Int))])
theorem nx_length (x : List Int) (m : Nat) : ∀ t i o, (nx x m t i o).length = o.length + 2 * t := by
  intro t
  induction t with
  | zero => intro i o; rfl
  | succ t ih => intro i o; simp only [nx, ih, List.length_append, List.length_cons, List.length_nil]; omega
def full (x : List Int) (m : Nat) : List Int := if m % 2 = 1 then nx x m (m / 2) 0 [] ++ [rd x ((m / 2 : Nat) : Int)] else nx x m (m / 2) 0 []
theorem full_length (x : List Int) (m : Nat) : (full x m).length = m := by
  unfold full
  split
  · rw [List.length_append, nx_length]; simp; omega
  · rw [nx_length]; simp; omega
def back (S : List Int) : Nat → List Int → List Int × Bool
  | 0, x => (x, true)
  | i + 1, x => if small (full x (rd S (i : Int)).toNat) = true then back S i (full x (rd S (i : Int)).toNat ++ x.drop (rd S (i : Int)).toNat) else ([], false)
theorem back_length (S : List Int) : ∀ i x, (∀ j : Nat, j < i → (rd S (j : Int)).toNat ≤ x.length) → (back S i x).1.length ≤ x.length := by
  intro i
  induction i with
  | zero => intro x _; exact Nat.le_refl _
  | succ i ih =>
    intro x h
    unfold back
    have hi := h i (by omega)
    have e : (full x (rd S (i : Int)).toNat ++ x.drop (rd S (i : Int)).toNat).length = x.length := by rw [List.length_append, full_length, List.length_drop]; omega
    split
    · have := ih (full x (rd S (i : Int)).toNat ++ x.drop (rd S (i : Int)).toNat) (fun j hj => by rw [e]; exact h j (by omega))
      rw [e] at this
      exact this
    · exact Nat.zero_le _

theorem half_up (m : Nat) (h : m ≤ 4096) : wrap64 (Int.tdiv (wrap64 ((m : Int) + 1)) 2) = (((m + 1) / 2 : Nat) : Int) := by
  rw [up1 (by omega)]
  have : Int.tdiv ((m + 1 : Nat) : Int) 2 = (((m + 1) / 2 : Nat) : Int) := rfl
  rw [this, w64 (by omega) (by omega)]
theorem half_down (m : Nat) (h : m ≤ 4096) : wrap64 (Int.tdiv (m : Int) 2) = ((m / 2 : Nat) : Int) := by
  have : Int.tdiv (m : Int) 2 = ((m / 2 : Nat) : Int) := rfl
  rw [this, w64 (by omega) (by omega)]
theorem odd_ (m : Nat) : Int.tmod (m : Int) 2 = ((m % 2 : Nat) : Int) := rfl
theorem wadd {a b : Nat} (ha : a ≤ 1048576) (hb : b ≤ 1048576) : wrap64 ((a : Int) + (b : Int)) = ((a + b : Nat) : Int) := by
  rw [w64 (by omega) (by omega)]; omega

theorem row_spec (S x : List Int) (m : Nat) (y : Int) (X : List Int × Bool) (hx : x.length ≤ 4096) (hm : m ≤ x.length) : ∀ t i o, i + t = m / 2 → o.length = 2 * i → Ev (fun k => spec_Unwave.l2 k S (m : Int) x y (((m + 1) / 2 : Nat) : Int) (nx x m t i o) ((m / 2 : Nat) : Int)) X → Ev (fun k => spec_Unwave.l2 k S (m : Int) x y (((m + 1) / 2 : Nat) : Int) o (i : Int)) X := by
  intro t
  induction t with
  | zero =>
    intro i o hi ho h
    rw [show i = m / 2 by omega]
    exact h
  | succ t ih =>
    intro i o hi ho h
    have IH := ih (i + 1) _ (by omega) (by simp; omega) h
    have ho2 : o.length + 2 < 17592186044416 := by omega
    refine Ev.step (fun k => spec_Unwave.l2.eq_2 _ _ _ _ _ _ _ k) ?_
    rw [half_down m (by omega)]
    refine evPos (by omega) ?_
    rw [wadd (a := (m + 1) / 2) (b := i) (by omega) (by omega)]
    refine evPos (by omega) (evPos (by omega) (evPos (by omega) (evPos (by omega) ?_)))
    rw [up1 (by omega)]
    exact evPos ho2 IH
theorem row_impl (S x : List Int) (m : Nat) (y : Int) (X : List Int × Bool) (hx : x.length ≤ 4096) (hm : m ≤ x.length) : ∀ t i o, i + t = m / 2 → o.length = 2 * i → Ev (fun k => impl_Unwave.l2 k x S y (m : Int) (nx x m t i o) ((m / 2 : Nat) : Int)) X → Ev (fun k => impl_Unwave.l2 k x S y (m : Int) o (i : Int)) X := by
  intro t
  induction t with
  | zero =>
    intro i o hi ho h
    rw [show i = m / 2 by omega]
    exact h
  | succ t ih =>
    intro i o hi ho h
    have IH := ih (i + 1) _ (by omega) (by simp; omega) h
    have ho2 : o.length + 2 < 17592186044416 := by omega
    refine Ev.step (fun k => impl_Unwave.l2.eq_2 _ _ _ _ _ _ k) ?_
    rw [half_down m (by omega), half_up m (by omega)]
    refine evPos (by omega) ?_
    rw [wadd (a := (m + 1) / 2) (b := i) (by omega) (by omega)]
    refine evPos (by omega) (evPos (by omega) (evPos (by omega) (evPos (by omega) ?_)))
    simp only [impl_half.f, Option.bind_some]
    rw [up1 (by omega)]
    exact evPos ho2 IH
/-- The sizes that are stepped through. -/
def Sizes (S : List Int) (n : Nat) : Prop := ∀ j : Nat, j < S.length → ∃ m : Nat, rd S (j : Int) = (m : Int) ∧ 2 ≤ m ∧ m ≤ n
theorem back_spec (S : List Int) (n : Nat) (hn : n ≤ 4096) (hS : Sizes S n) (hl : S.length ≤ 4096) : ∀ i x, i ≤ S.length → x.length = n → small x = true → Ev (fun k => spec_Unwave.l1 k S x ((i : Int) - 1)) (back S i x) := by
  intro i
  induction i with
  | zero =>
    intro x _ _ _
    exact Ev.step (fun k => spec_Unwave.l1.eq_2 _ _ _ k) (evNeg (by omega) (Ev.now _))
  | succ i ih =>
    intro x hi hx hs
    obtain ⟨m, hm, m2, mn⟩ := hS i (by omega)
    have e0 : ((i + 1 : Nat) : Int) - 1 = (i : Int) := by omega
    rw [e0]
    unfold back
    rw [hm, Int.toNat_natCast]
    refine Ev.step (fun k => spec_Unwave.l1.eq_2 _ _ _ k) (evPos (by omega) (evPos (by omega) (evPos (by omega) ?_)))
    rw [hm, half_up m (by omega)]
    refine row_spec S x m _ _ (by omega) (by omega) (m / 2) 0 [] (by omega) rfl ?_
    have hF := full_length x m
    have hd := small_of_drop x m hs
    have hlen : (full x m ++ x.drop m).length = n := by rw [List.length_append, hF, List.length_drop]; omega
    have last : Ev (fun k => (spec_l8Small.f k (full x m ++ x.drop m) 60).bind fun t => if t = true then spec_Unwave.l1 k S (full x m ++ x.drop m) (wrap64 ((i : Int) - 1)) else some (([] : List Int), false)) (if small (full x m) = true then back S i (full x m ++ x.drop m) else ([], false)) := by
      refine Ev.bind (small_spec _ (by omega)) ?_
      rw [small_append, hd, Bool.and_true, w64 (x := (i : Int) - 1) (by omega) (by omega)]
      cases hc : small (full x m) with
      | true => exact evPos rfl (ih _ (by omega) hlen (by rw [small_append, hc, hd]; rfl))
      | false => exact evNeg (by decide) (Ev.now _)
    refine Ev.step (fun k => spec_Unwave.l2.eq_2 _ _ _ _ _ _ _ k) ?_
    rw [half_down m (by omega)]
    refine evNeg (by omega) ?_
    rw [odd_]
    have hN := nx_length x m (m / 2) 0 []
    rw [List.length_nil] at hN
    by_cases ho : m % 2 = 1
    · have hFe : nx x m (m / 2) 0 [] ++ [rd x ((m / 2 : Nat) : Int)] = full x m := by unfold full; rw [if_pos ho]
      refine evPos (by omega) ?_
      rw [show wrap64 ((((m + 1) / 2 : Nat) : Int) - 1) = ((m / 2 : Nat) : Int) by rw [w64 (by omega) (by omega)]; omega]
      simp only [Option.bind_some, Int.toNat_natCast]
      rw [hFe]
      refine evPos (by omega) (evPos (by omega) (evPos (by omega) (evPos (by omega) (evPos (by omega) ?_))))
      exact evPos (by rw [List.length_drop]; omega) last
    · have hFe : nx x m (m / 2) 0 [] = full x m := by unfold full; rw [if_neg ho]
      simp only [Option.bind_some, Int.toNat_natCast]
      rw [hFe]
      refine evNeg (by omega) (evPos (by omega) (evPos (by omega) ?_))
      exact evPos (by rw [List.length_drop]; omega) last
theorem back_impl (S : List Int) (n : Nat) (hn : n ≤ 4096) (hS : Sizes S n) (hl : S.length ≤ 4096) : ∀ i x, i ≤ S.length → x.length = n → Ev (fun k => impl_Unwave.l1 k x S ((i : Int) - 1)) (back S i x) := by
  intro i
  induction i with
  | zero =>
    intro x _ _
    exact Ev.step (fun k => impl_Unwave.l1.eq_2 _ _ _ k) (evNeg (by omega) (Ev.now _))
  | succ i ih =>
    intro x hi hx
    obtain ⟨m, hm, m2, mn⟩ := hS i (by omega)
    have e0 : ((i + 1 : Nat) : Int) - 1 = (i : Int) := by omega
    rw [e0]
    unfold back
    rw [hm, Int.toNat_natCast]
    refine Ev.step (fun k => impl_Unwave.l1.eq_2 _ _ _ k) (evPos (by omega) (evPos (by omega) (evPos (by omega) ?_)))
    rw [hm]
    refine row_impl S x m _ _ (by omega) (by omega) (m / 2) 0 [] (by omega) rfl ?_
    have hF := full_length x m
    have hlen : (full x m ++ x.drop m).length = n := by rw [List.length_append, hF, List.length_drop]; omega
    have last : Ev (fun k => (impl_within.f k (full x m) 1152921504606846976).bind fun t => if t = true then impl_Unwave.l1 k ((full x m).take (min (full x m).length x.length) ++ x.drop (min (full x m).length x.length)) S (wrap64 ((i : Int) - 1)) else some (([] : List Int), false)) (if small (full x m) = true then back S i (full x m ++ x.drop m) else ([], false)) := by
      refine Ev.bind (small_impl _ (by omega)) ?_
      rw [w64 (x := (i : Int) - 1) (by omega) (by omega), hF, show min m x.length = m by omega, List.take_of_length_le (by omega)]
      cases hc : small (full x m) with
      | true => exact evPos rfl (ih _ (by omega) hlen)
      | false => exact evNeg (by decide) (Ev.now _)
    refine Ev.step (fun k => impl_Unwave.l2.eq_2 _ _ _ _ _ _ k) ?_
    rw [half_down m (by omega)]
    refine evNeg (by omega) ?_
    rw [odd_]
    have hN := nx_length x m (m / 2) 0 []
    rw [List.length_nil] at hN
    by_cases ho : m % 2 = 1
    · have hFe : nx x m (m / 2) 0 [] ++ [rd x ((m / 2 : Nat) : Int)] = full x m := by unfold full; rw [if_pos ho]
      simp only [Option.bind_some]
      rw [hFe]
      exact evPos (by omega) (evPos (by omega) (evPos (by omega) (evPos (by omega) last)))
    · have hFe : nx x m (m / 2) 0 [] = full x m := by unfold full; rw [if_neg ho]
      rw [hFe]
      exact evNeg (by omega) last

def sz : Nat → Nat → List Int → List Int
  | 0, _, o => o
  | t + 1, m, o => if 1 < m then sz t ((m + 1) / 2) (o ++ [(m : Int)]) else o
theorem sz_ok (n : Nat) : ∀ t m o, m ≤ n → Sizes o n → Sizes (sz t m o) n ∧ (sz t m o).length ≤ o.length + t := by
  intro t
  induction t with
  | zero => intro m o _ h; exact ⟨h, Nat.le_refl _⟩
  | succ t ih =>
    intro m o hm h
    unfold sz
    by_cases c : 1 < m
    · rw [if_pos c]
      obtain ⟨h1, h2⟩ := ih ((m + 1) / 2) (o ++ [(m : Int)]) (by omega) (by
        intro j hj
        by_cases hjo : j < o.length
        · obtain ⟨m', e, r⟩ := h j hjo
          refine ⟨m', ?_, r⟩
          rw [← e, rd_nat, rd_nat, getD_append_left _ _ _ hjo]
        · have : j = o.length := by simp at hj; omega
          refine ⟨m, ?_, by omega, hm⟩
          rw [rd_nat, this]
          simp [List.getD_eq_getElem?_getD])
      refine ⟨h1, ?_⟩
      simp at h2
      omega
    · rw [if_neg c]
      exact ⟨h, by omega⟩
theorem sz_spec (x : List Int) (st : Nat) (hst : st ≤ 12) (X : List Int × Bool) : ∀ t s m o, s + t = st → m ≤ 4096 → o.length = s → Ev (fun k => spec_Unwave.j2 k x (sz t m o)) X → Ev (fun k => spec_Unwave.l0 k x (st : Int) o (m : Int) (s : Int)) X := by
  intro t
  induction t with
  | zero =>
    intro s m o hs hm ho h
    exact Ev.step (fun k => spec_Unwave.l0.eq_2 _ _ _ _ _ k) (evNeg (by omega) h)
  | succ t ih =>
    intro s m o hs hm ho h
    refine Ev.step (fun k => spec_Unwave.l0.eq_2 _ _ _ _ _ k) (evPos (by omega) ?_)
    unfold sz at h
    by_cases c : 1 < m
    · rw [if_pos c] at h
      refine evPos (by omega) (evPos (by omega) ?_)
      rw [half_up m hm, up1 (by omega)]
      exact ih (s + 1) _ _ (by omega) (by omega) (by simp; omega) h
    · rw [if_neg c] at h
      exact evNeg (by omega) h
theorem sz_impl (x : List Int) (X : List Int × Bool) : ∀ t m o, t ≤ 12 → m ≤ 4096 → o.length + t ≤ 12 → Ev (fun k => impl_Unwave.j2 k x (sz t m o)) X → Ev (fun k => impl_Unwave.l0 k (t : Int) x o (m : Int)) X := by
  intro t
  induction t with
  | zero =>
    intro m o ht hm ho h
    exact Ev.step (fun k => impl_Unwave.l0.eq_2 _ _ _ _ k) (evNeg (by omega) h)
  | succ t ih =>
    intro m o ht hm ho h
    refine Ev.step (fun k => impl_Unwave.l0.eq_2 _ _ _ _ k) (evPos (by omega) ?_)
    unfold sz at h
    by_cases c : 1 < m
    · rw [if_pos c] at h
      refine evPos (by omega) (evPos (by omega) ?_)
      rw [half_up m hm, show wrap64 (((t + 1 : Nat) : Int) - 1) = (t : Int) by rw [w64 (by omega) (by omega)]; omega]
      exact ih _ _ (by omega) (by omega) (by simp; omega) h
    · rw [if_neg c] at h
      exact evNeg (by omega) h

theorem unwave_both (l : List Int) (a : Int) (hl : l.length ≤ 1048576) : ∃ r : List Int × Bool, Ev (fun k => spec_Unwave.f k l a) r ∧ Ev (fun k => impl_Unwave.f k l a) r ∧ r.1.length ≤ 1048576 := by
  simp only [spec_Unwave.f, impl_Unwave.f, l2In_s, in_s, Option.bind_some]
  have noS : Ev (fun k => spec_Unwave.j0 k l a true) ([], false) := Ev.step (fun k => spec_Unwave.j0.eq_2 _ _ _ k) (evPos rfl (Ev.now _))
  have noI : Ev (fun k => impl_Unwave.j0 k l a true) ([], false) := Ev.step (fun k => impl_Unwave.j0.eq_2 _ _ _ k) (evPos rfl (Ev.now _))
  by_cases h4 : l.length ≤ 4096
  rotate_left
  · have s1 : Ev (fun k => spec_l8Small.f k l 60) false := by simp only [spec_l8Small.f]; exact evPos (by omega) (Ev.now _)
    have s2 : Ev (fun k => impl_within.f k l 1152921504606846976) false := by simp only [impl_within.f]; exact evPos (by omega) (Ev.now _)
    exact ⟨([], false), Ev.bind s1 (evNeg (by decide) noS), Ev.bind s2 (evNeg (by decide) noI), Nat.zero_le _⟩
  cases hs : small l with
  | false =>
    have s1 := small_spec l h4
    have s2 := small_impl l h4
    rw [hs] at s1 s2
    exact ⟨([], false), Ev.bind s1 (evNeg (by decide) noS), Ev.bind s2 (evNeg (by decide) noI), Nat.zero_le _⟩
  | true =>
    have s1 := small_spec l h4
    have s2 := small_impl l h4
    rw [hs] at s1 s2
    cases hi : inS a 1 12 with
    | false => exact ⟨([], false), Ev.bind s1 (evPos rfl noS), Ev.bind s2 (evPos rfl noI), Nat.zero_le _⟩
    | true =>
      rw [inS_iff] at hi
      obtain ⟨t, rfl⟩ := Int.eq_ofNat_of_zero_le (show 0 ≤ a by omega)
      have ht : t ≤ 12 := by omega
      obtain ⟨hS, hZ⟩ := sz_ok l.length t l.length [] (Nat.le_refl _) (fun j hj => absurd hj (Nat.not_lt_zero _))
      rw [List.length_nil, Nat.zero_add] at hZ
      refine ⟨back (sz t l.length []) (sz t l.length []).length l, Ev.bind s1 (evPos rfl ?_), Ev.bind s2 (evPos rfl ?_), ?_⟩
      · refine Ev.step (fun k => spec_Unwave.j0.eq_2 _ _ _ k) (evNeg (by decide) ?_)
        refine sz_spec l t ht _ t 0 l.length [] (by omega) h4 rfl ?_
        refine Ev.step (fun k => spec_Unwave.j2.eq_2 _ _ k) (evPos (by simp; omega) ?_)
        rw [w64 (by omega) (by omega)]
        exact back_spec _ l.length h4 hS (by omega) _ l (Nat.le_refl _) rfl hs
      · refine Ev.step (fun k => impl_Unwave.j0.eq_2 _ _ _ k) (evNeg (by decide) (evPos (by simp; omega) ?_))
        refine sz_impl l _ t l.length [] ht h4 (by simpa using ht) ?_
        refine Ev.step (fun k => impl_Unwave.j2.eq_2 _ _ k) ?_
        rw [w64 (by omega) (by omega)]
        exact back_impl _ l.length h4 hS (by omega) _ l (Nat.le_refl _) rfl
      · refine Nat.le_trans (back_length _ _ _ ?_) hl
        intro j hj
        obtain ⟨m, e, _, mn⟩ := hS j hj
        rw [e, Int.toNat_natCast]
        exact mn

theorem FnExactUnwave : laws_FnExactUnwave.Pure := by
  intro l a _ _ _ _
  refine Ev.rounds ?_
  simp only [laws_FnExactUnwave.f]
  by_cases hl : l.length ≤ 1048576
  rotate_left
  · exact evPos (by omega) (Ev.now _)
  obtain ⟨r, hs, hi, hr⟩ := unwave_both l a hl
  refine evNeg (by first | omega | (simp; omega) | simp) ?_
  refine Ev.bind (toInt64S_ev _ (by first | assumption | omega | (simp; omega))) ?_
  refine Ev.bind hs ?_
  refine Ev.bind (toInt64S_ev _ (by first | assumption | omega | (simp; omega))) ?_
  refine Ev.bind hi ?_
  refine Ev.bind (eqInt64S_ev _ (by first | assumption | omega | (simp; omega))) ?_
  refine evPos (by first | rfl | trivial | simp) ?_
  refine Ev.step (fun k => laws_FnExactUnwave.j0.eq_2 _ _ _ _ _ _ _ _ k) ?_
  refine evNeg (by simp) ?_
  refine Ev.bind (toInt64S_ev _ (by first | assumption | omega | (simp; omega))) ?_
  refine Ev.bind (eqInt64S_ev _ (by first | assumption | omega | (simp; omega))) ?_
  refine evPos (by first | rfl | trivial | simp) ?_
  refine Ev.bind (markInt64S_ev _ 1 (by first | omega | (simp; omega)) (by omega)) ?_
  refine evNeg (by first | omega | (simp; omega) | simp) ?_
  refine Ev.bind (eqInt64S_ev _ (by first | assumption | omega | (simp; omega))) ?_
  refine evPos (by first | rfl | trivial | simp) ?_
  refine Ev.step (fun k => laws_FnExactUnwave.j1.eq_2 _ _ _ _ _ _ k) ?_
  refine evNeg (by simp) ?_
  refine Ev.bind (markInt64S_ev _ 1 (by first | omega | (simp; omega)) (by omega)) ?_
  refine Ev.bind (heldInt64S_ev _ 1 (by omega) (by omega)) ?_
  refine evNeg (by first | omega | (simp; omega) | simp) ?_
  refine evPos (by first | rfl | trivial | simp) ?_
  refine Ev.bind (toInt64S_ev _ (by first | assumption | omega | (simp; omega))) ?_
  refine Ev.bind hi ?_
  refine Ev.bind (eqInt64S_ev _ (by first | assumption | omega | (simp; omega))) ?_
  refine evPos (by first | rfl | trivial | simp) ?_
  refine Ev.step (fun k => laws_FnExactUnwave.j2.eq_2 _ _ _ k) ?_
  refine evNeg (by simp) ?_
  refine Ev.bind (heldInt64S_ev _ 1 (by omega) (by omega)) ?_
  refine evNeg (by first | omega | (simp; omega) | simp) ?_
  refine evPos (by first | rfl | trivial | simp) ?_
  exact Ev.now _
end Go.Proofs.Ytmndffnjejgfoaa.Pure
