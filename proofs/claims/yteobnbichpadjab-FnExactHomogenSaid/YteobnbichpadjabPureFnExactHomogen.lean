/- The plain statement of the law FnExactHomogen: program and reference take the same series, find the same break, and hand back the same series made even; no condition. -/
import Derived.Test.YteobnbichpadjabI64
import Derived.Test.YteobnbichpadjabInAll
import Derived.Test.YteobnbichpadjabQx10
import Derived.Test.YteobnbichpadjabQx13
import Derived.Test.YteobnbichpadjabQx14
import Derived.Test.YteobnbichpadjabQx15
import Derived.Test.YteobnbichpadjabQx16
import Derived.Test.YteobnbichpadjabQx17
import Derived.Test.YteobnbichpadjabQx18
import Derived.Test.YteobnbichpadjabQx7
import Derived.Test.YteobnbichpadjabQx8
import Derived.Test.YteobnbichpadjabQx9
set_option linter.unusedVariables false
set_option linter.unusedSimpArgs false
namespace Go.Proofs.Yteobnbichpadjab.Pure
open Go.RowKit Go.Proofs.Yteobnbichpadjab.Q Go.Proofs.Yteobnbichpadjab.Gen Go.Proofs.YteobnbichpadjabW.PrintWords Go.Proofs.YteobnbichpadjabW.PrintMore

def okS (l : List Int) : Bool := l.all fun x => inS x (-100000) 100000
theorem okS_get {l : List Int} (h : okS l = true) (j : Nat) (hj : j < l.length) : -100000 ≤ l.getD j 0 ∧ l.getD j 0 ≤ 100000 := by
  have h' := List.all_eq_true.1 h (l.getD j 0) (by rw [List.getD_eq_getElem?_getD, List.getElem?_eq_getElem hj]; exact List.getElem_mem hj)
  exact (inS_iff _ _ _).1 h'
theorem specOk_ev (l : List Int) (h : l.length ≤ 1048576) : Ev (fun k => spec_l19Ok.f k l) (decide (1 ≤ l.length ∧ l.length ≤ 500) && okS l) := by
  simp only [spec_l19Ok.f]
  by_cases c1 : 1 ≤ l.length
  · refine evPos (by omega) ?_
    by_cases c2 : l.length ≤ 500
    · refine evPos (by omega) ?_
      have := all_spec l (l.length : Int) (-100000) 100000 (by omega)
      rw [decide_eq_true rfl, Bool.true_and] at this
      rw [decide_eq_true ⟨c1, c2⟩, Bool.true_and]
      exact Ev.bind this (Ev.now _)
    · rw [decide_eq_false (fun h => c2 h.2), Bool.false_and]
      exact evNeg (by omega) (Ev.now _)
  · rw [decide_eq_false (fun h => c1 h.1), Bool.false_and]
    exact evNeg (by omega) (Ev.now _)
theorem implOk_ev (l : List Int) (h : l.length ≤ 1048576) : Ev (fun k => impl_seriesOk.f k l) (decide (1 ≤ l.length ∧ l.length ≤ 500) && okS l) := by
  simp only [impl_seriesOk.f, in_s]
  by_cases c : 1 ≤ l.length ∧ l.length ≤ 500
  · rw [(inS_iff (l.length : Int) 1 500).2 ⟨by omega, by omega⟩]
    have := all_impl l (l.length : Int) (-100000) 100000 (by omega)
    rw [decide_eq_true rfl, Bool.true_and] at this
    rw [decide_eq_true c, Bool.true_and]
    exact Ev.bind (Ev.now _) (evPos rfl (Ev.bind this (Ev.now _)))
  · rw [decide_eq_false c, Bool.false_and]
    have e : inS (l.length : Int) 1 500 = false := by
      cases hh : inS (l.length : Int) 1 500 with
      | false => rfl
      | true => rw [inS_iff] at hh; exact absurd ⟨by omega, by omega⟩ c
    rw [e]
    exact Ev.bind (Ev.now _) (evNeg (by decide) (Ev.now _))

/-! sums -/
def PS (l : List Int) : Nat → Int
  | 0 => 0
  | n + 1 => PS l n + l.getD n 0
structure Ser (l : List Int) : Prop where
  one : 1 ≤ l.length
  most : l.length ≤ 500
  ok : okS l = true
theorem Ser.ps {l : List Int} (h : Ser l) : ∀ n, n ≤ l.length → -100000 * (n : Int) ≤ PS l n ∧ PS l n ≤ 100000 * (n : Int) := by
  intro n
  induction n with
  | zero => intro _; exact ⟨by show _ ≤ (0 : Int); omega, by show (0 : Int) ≤ _; omega⟩
  | succ n ih =>
    intro hn
    have := ih (by omega)
    have b := okS_get h.ok n (by omega)
    unfold PS
    omega
theorem Ser.pb {l : List Int} (h : Ser l) {n : Nat} (hn : n ≤ l.length) : -50000000 ≤ PS l n ∧ PS l n ≤ 50000000 := by
  have := h.ps n hn
  have := h.most
  omega
theorem sum_ev (l : List Int) (hn : l.length ≤ 1048576) (P : Nat → Int) (h0 : P 0 = 0) (hs : ∀ j, j < l.length → wrap64 (P j + rd l (j : Int)) = P (j + 1)) : Ev (fun k => spec_l19Sum.f k l) (P l.length) := by
  have main : ∀ t j, j + t = l.length → Ev (fun k => spec_l19Sum.l0 k l (P j) (j : Int)) (P l.length) := by
    intro t
    induction t with
    | zero =>
      intro j hj
      rw [show j = l.length by omega]
      exact Ev.step (fun k => spec_l19Sum.l0.eq_2 _ _ _ k) (evNeg (by omega) (Ev.now _))
    | succ t ih =>
      intro j hj
      refine Ev.step (fun k => spec_l19Sum.l0.eq_2 _ _ _ k) (evPos (by omega) (evPos (by omega) ?_))
      rw [hs j (by omega), up1 (by omega)]
      exact ih (j + 1) (by omega)
  have := main l.length 0 (by omega)
  rw [h0] at this
  exact this
theorem getD_take (l : List Int) (k j : Nat) (hj : j < k) : (l.take k).getD j 0 = l.getD j 0 := by
  simp [List.getD_eq_getElem?_getD, List.getElem?_take, hj]
theorem getD_drop (l : List Int) (k j : Nat) : (l.drop k).getD j 0 = l.getD (k + j) 0 := by
  simp [List.getD_eq_getElem?_getD, List.getElem?_drop]
theorem Ser.sumT {l : List Int} (h : Ser l) {k : Nat} (hk : k ≤ l.length) : Ev (fun r => spec_l19Sum.f r (l.take k)) (PS l k) := by
  have hl : (l.take k).length = k := by rw [List.length_take]; omega
  have hm := h.most
  have := sum_ev (l.take k) (by omega) (PS l) rfl (fun j hj => by
    have b := h.pb (n := j + 1) (by omega)
    rw [rd_nat, getD_take _ _ _ (by omega)]
    exact w64 (x := PS l (j + 1)) (by omega) (by omega))
  rw [hl] at this
  exact this
theorem Ser.sumD {l : List Int} (h : Ser l) {k : Nat} (hk : k ≤ l.length) : Ev (fun r => spec_l19Sum.f r (l.drop k)) (PS l l.length - PS l k) := by
  have hl : (l.drop k).length = l.length - k := List.length_drop
  have hm := h.most
  have b0 := h.pb hk
  have := sum_ev (l.drop k) (by omega) (fun j => PS l (k + j) - PS l k) (by show PS l k - PS l k = 0; omega) (fun j hj => by
    have b := h.pb (n := k + j + 1) (by omega)
    rw [rd_nat, getD_drop]
    show wrap64 (PS l (k + j) - PS l k + l.getD (k + j) 0) = PS l (k + j + 1) - PS l k
    have e : PS l (k + j + 1) = PS l (k + j) + l.getD (k + j) 0 := rfl
    rw [w64 (by omega) (by omega)]
    omega)
  rw [hl, show k + (l.length - k) = l.length by omega] at this
  exact this
theorem Ser.sumA {l : List Int} (h : Ser l) : Ev (fun r => spec_l19Sum.f r l) (PS l l.length) := by
  have := h.sumT (k := l.length) (Nat.le_refl _)
  rw [List.take_of_length_le (Nat.le_refl _)] at this
  exact this

/-! the break -/
def Dk (l : List Int) (k : Nat) : Int := (l.length : Int) * PS l k - (k : Int) * PS l l.length
def Ak (l : List Int) (k : Nat) : Int := mx (Dk l k) (-(Dk l k))
theorem Ak0 (l : List Int) (k : Nat) : 0 ≤ Ak l k := by
  unfold Ak mx
  split <;> omega
def bk (l : List Int) : Nat → Nat → Nat → Int → Nat × Int
  | 0, _, at_, m => (at_, m)
  | t + 1, k, at_, m => if Ak l k > m then bk l t (k + 1) k (Ak l k) else bk l t (k + 1) at_ m
theorem bk_rng (l : List Int) (n : Nat) : ∀ t k at_ m, k + t = n → 1 ≤ k → ((1 ≤ at_ ∧ at_ < n) ∨ (m = -1 ∧ 1 ≤ t)) → 1 ≤ (bk l t k at_ m).1 ∧ (bk l t k at_ m).1 < n := by
  intro t
  induction t with
  | zero =>
    intro k at_ m h1 h2 h3
    rcases h3 with h | h
    · exact h
    · omega
  | succ t ih =>
    intro k at_ m h1 h2 h3
    unfold bk
    by_cases c : Ak l k > m
    · rw [if_pos c]
      exact ih (k + 1) k _ (by omega) (by omega) (.inl ⟨by omega, by omega⟩)
    · rw [if_neg c]
      rcases h3 with h | h
      · exact ih (k + 1) at_ m (by omega) (by omega) (.inl h)
      · have := Ak0 l k; omega
theorem Ser.prod {l : List Int} (h : Ser l) {k j : Nat} (hk : k ≤ l.length) (hj : j ≤ l.length) : -25000000000 ≤ (k : Int) * PS l j ∧ (k : Int) * PS l j ≤ 25000000000 := by
  have b := h.pb hj
  have m := h.most
  have k0 : (0 : Int) ≤ (k : Int) := by omega
  have h1 : (k : Int) * PS l j ≤ (k : Int) * 50000000 := Int.mul_le_mul_of_nonneg_left b.2 k0
  have h2 : (k : Int) * (-50000000) ≤ (k : Int) * PS l j := Int.mul_le_mul_of_nonneg_left b.1 k0
  omega
theorem break_spec {l : List Int} (h : Ser l) : ∀ (t k at_ : Nat) (m : Int), k + t = l.length → Ev (fun r => spec_Break.l0 r l (l.length : Int) (at_ : Int) m (k : Int)) (((bk l t k at_ m).1 : Int), mx (bk l t k at_ m).2 0) := by
  have hm := h.most
  intro t
  induction t with
  | zero =>
    intro k at_ m hk
    exact Ev.step (fun r => spec_Break.l0.eq_2 _ _ _ _ _ r) (evNeg (by omega) (Ev.now _))
  | succ t ih =>
    intro k at_ m hk
    have p1 := h.prod (k := l.length) (j := k) (Nat.le_refl _) (by omega)
    have p2 := h.prod (k := k) (j := l.length) (by omega) (Nat.le_refl _)
    have e1 : wrap64 ((l.length : Int) * PS l k) = (l.length : Int) * PS l k := w64 (by omega) (by omega)
    have e2 : wrap64 ((k : Int) * PS l l.length) = (k : Int) * PS l l.length := w64 (by omega) (by omega)
    have e3 : wrap64 ((l.length : Int) * PS l k - (k : Int) * PS l l.length) = Dk l k := by unfold Dk; exact w64 (by omega) (by omega)
    have e4 : wrap64 (-(Dk l k)) = -(Dk l k) := by unfold Dk; exact w64 (by omega) (by omega)
    refine Ev.step (fun r => spec_Break.l0.eq_2 _ _ _ _ _ r) (evPos (by omega) (evPos (by omega) (evPos (by omega) ?_)))
    rw [Int.toNat_natCast]
    refine Ev.bind (h.sumT (k := k) (by omega)) (Ev.bind h.sumA ?_)
    rw [e1, e2, e3, e4, up1 (by omega)]
    show Ev (fun r => if Ak l k > m then spec_Break.l0 r l (l.length : Int) (k : Int) (Ak l k) ((k + 1 : Nat) : Int) else spec_Break.l0 r l (l.length : Int) (at_ : Int) m ((k + 1 : Nat) : Int)) _
    unfold bk
    by_cases c : Ak l k > m
    · simp only [if_pos c]
      exact ih (k + 1) k (Ak l k) (by omega)
    · simp only [if_neg c]
      exact ih (k + 1) at_ m (by omega)
theorem break_impl {l : List Int} (h : Ser l) : ∀ (t k at_ : Nat) (m : Int), k + t = l.length → 1 ≤ k → Ev (fun r => impl_Break.l1 r l (l.length : Int) (PS l l.length) (PS l (k - 1)) (at_ : Int) m (k : Int)) (((bk l t k at_ m).1 : Int), (bk l t k at_ m).2) := by
  have hm := h.most
  intro t
  induction t with
  | zero =>
    intro k at_ m hk k1
    exact Ev.step (fun r => impl_Break.l1.eq_2 _ _ _ _ _ _ _ r) (evNeg (by omega) (Ev.now _))
  | succ t ih =>
    intro k at_ m hk k1
    have p1 := h.prod (k := l.length) (j := k) (Nat.le_refl _) (by omega)
    have p2 := h.prod (k := k) (j := l.length) (by omega) (Nat.le_refl _)
    have b := h.pb (n := k) (by omega)
    have e0 : wrap64 (PS l (k - 1) + rd l ((k - 1 : Nat) : Int)) = PS l k := by
      obtain ⟨j, rfl⟩ : ∃ j, k = j + 1 := ⟨k - 1, by omega⟩
      rw [rd_nat]
      exact w64 (x := PS l (j + 1)) (by omega) (by omega)
    have ek : wrap64 ((k : Int) - 1) = ((k - 1 : Nat) : Int) := by rw [w64 (by omega) (by omega)]; omega
    have e1 : wrap64 ((l.length : Int) * PS l k) = (l.length : Int) * PS l k := w64 (by omega) (by omega)
    have e2 : wrap64 ((k : Int) * PS l l.length) = (k : Int) * PS l l.length := w64 (by omega) (by omega)
    have e3 : wrap64 ((l.length : Int) * PS l k - (k : Int) * PS l l.length) = Dk l k := by unfold Dk; exact w64 (by omega) (by omega)
    have e4 : wrap64 ((k : Int) * PS l l.length - (l.length : Int) * PS l k) = -(Dk l k) := by unfold Dk; rw [w64 (by omega) (by omega)]; omega
    refine Ev.step (fun r => impl_Break.l1.eq_2 _ _ _ _ _ _ _ r) (evPos (by omega) ?_)
    rw [ek]
    refine evPos (by omega) (evPos (by omega) ?_)
    rw [e0, e1, e2]
    have ea : impl_away.f ((l.length : Int) * PS l k) ((k : Int) * PS l l.length) = some (Ak l k) := by
      unfold impl_away.f
      rw [e3, e4]
      rfl
    rw [ea]
    refine Ev.bind (Ev.now _) ?_
    rw [up1 (by omega)]
    unfold bk
    have IH := fun a m => ih (k + 1) a m (by omega) (by omega)
    rw [Nat.add_sub_cancel] at IH
    by_cases c : Ak l k > m
    · simp only [if_pos c]
      exact IH k (Ak l k)
    · simp only [if_neg c]
      exact IH at_ m
theorem break_tot {l : List Int} (h : Ser l) : ∀ t j, j + t = l.length → ∀ X, Ev (fun r => impl_Break.l1 r l (l.length : Int) (PS l l.length) 0 0 (-1) 1) X → Ev (fun r => impl_Break.l0 r l (l.length : Int) (PS l j) l (l.length : Int) (j : Int)) X := by
  have hm := h.most
  intro t
  induction t with
  | zero =>
    intro j hj X hX
    rw [show j = l.length by omega]
    exact Ev.step (fun r => impl_Break.l0.eq_2 _ _ _ _ _ _ r) (evNeg (by omega) hX)
  | succ t ih =>
    intro j hj X hX
    have b := h.pb (n := j + 1) (by omega)
    have e0 : wrap64 (PS l j + rd l (j : Int)) = PS l (j + 1) := by rw [rd_nat]; exact w64 (x := PS l (j + 1)) (by omega) (by omega)
    refine Ev.step (fun r => impl_Break.l0.eq_2 _ _ _ _ _ _ r) (evPos (by omega) (evPos (by omega) (evPos (by omega) ?_)))
    rw [e0, up1 (by omega)]
    exact ih (j + 1) (by omega) X hX
theorem Ser.okb {l : List Int} (h : Ser l) : (decide (1 ≤ l.length ∧ l.length ≤ 500) && okS l) = true := by
  rw [decide_eq_true ⟨h.one, h.most⟩, h.ok]
  rfl
theorem breakS {l : List Int} (h : Ser l) : Ev (fun r => spec_Break.f r l) (((bk l (l.length - 1) 1 0 (-1)).1 : Int), mx (bk l (l.length - 1) 1 0 (-1)).2 0) := by
  have hm := h.most
  have h1 := h.one
  have ok := specOk_ev l (by omega)
  rw [h.okb] at ok
  simp only [spec_Break.f]
  exact Ev.bind ok (evPos rfl (break_spec h (l.length - 1) 1 0 (-1) (by omega)))
theorem breakI {l : List Int} (h : Ser l) (h2 : 2 ≤ l.length) : Ev (fun r => impl_Break.f r l) (((bk l (l.length - 1) 1 0 (-1)).1 : Int), (bk l (l.length - 1) 1 0 (-1)).2) := by
  have hm := h.most
  have ok := implOk_ev l (by omega)
  rw [h.okb] at ok
  simp only [impl_Break.f]
  refine Ev.bind ok (evPos rfl ?_)
  rw [show ((l.length : Int) == 1) = false by simp; omega]
  refine Ev.step (fun r => impl_Break.j0.eq_2 _ _ _ r) (evNeg (by decide) ?_)
  exact break_tot h l.length 0 (by omega) _ (break_impl h (l.length - 1) 1 0 (-1) (by omega) (Nat.le_refl _))

/-! the steps -/
def ev_ (l : List Int) (st : Int) (j i : Nat) : Int := if i < j then wrap64 (l.getD i 0 + st) else l.getD i 0
def X_ (l : List Int) (st : Int) (j : Nat) : List Int := tab l.length (ev_ l st j)
theorem X_length (l : List Int) (st : Int) (j : Nat) : (X_ l st j).length = l.length := tab_length _ _
theorem X_get (l : List Int) (st : Int) (j i : Nat) (hi : i < l.length) : rd (X_ l st j) (i : Int) = ev_ l st j i := by
  rw [rd_nat]; exact tab_get _ _ _ hi
theorem X_zero (l : List Int) (st : Int) : X_ l st 0 = l := by
  apply List.ext_getElem (tab_length _ _)
  intro i h1 h2
  simp only [X_, tab, List.getElem_map, List.getElem_range]
  unfold ev_
  rw [if_neg (Nat.not_lt_zero _), List.getD_eq_getElem?_getD, List.getElem?_eq_getElem h2]
  rfl
theorem X_set (l : List Int) (st : Int) (j : Nat) (hj : j < l.length) : (X_ l st j).set j (wrap64 (l.getD j 0 + st)) = X_ l st (j + 1) := by
  apply List.ext_getElem (by rw [List.length_set, X_length, X_length])
  intro i h1 h2
  rw [List.getElem_set]
  simp only [X_, tab, List.getElem_map, List.getElem_range]
  unfold ev_
  by_cases c : j = i
  · rw [if_pos c, if_pos (by omega), c]
  · rw [if_neg c]
    by_cases c2 : i < j
    · rw [if_pos c2, if_pos (by omega)]
    · rw [if_neg c2, if_neg (by omega)]
theorem okX_false {l : List Int} {st : Int} {k i : Nat} (hi : i < l.length) (h : inS (ev_ l st k i) (-100000) 100000 = false) : okS (X_ l st k) = false := by
  cases hh : okS (X_ l st k) with
  | false => rfl
  | true =>
    have := okS_get hh i (by rw [X_length]; exact hi)
    rw [← rd_nat, X_get _ _ _ _ hi] at this
    rw [(inS_iff _ _ _).2 this] at h
    cases h
theorem okX_true {l : List Int} {st : Int} {k : Nat} (h : ∀ i, i < l.length → inS (ev_ l st k i) (-100000) 100000 = true) : okS (X_ l st k) = true := by
  refine List.all_eq_true.2 fun x hx => ?_
  obtain ⟨i, hi, rfl⟩ := List.mem_map.1 hx
  exact h i (List.mem_range.1 hi)
def RR (l : List Int) (st : Int) (k : Nat) : List Int × Int := if okS (X_ l st k) = true then (X_ l st k, st) else ([], 0)
theorem steps_impl {l : List Int} (h : Ser l) (st : Int) (k : Nat) (hk : k ≤ l.length) : ∀ t j, j + t = k → (∀ i, i < j → inS (wrap64 (l.getD i 0 + st)) (-100000) 100000 = true) → Ev (fun r => impl_Homogen.l1 r (X_ l st j) (k : Int) st (j : Int)) (RR l st k) := by
  have hm := h.most
  intro t
  induction t with
  | zero =>
    intro j hj hg
    have e : okS (X_ l st k) = true := okX_true fun i hi => by
      unfold ev_
      by_cases c : i < k
      · rw [if_pos c]; exact hg i (by omega)
      · rw [if_neg c]; exact (inS_iff _ _ _).2 (okS_get h.ok i hi)
    unfold RR
    rw [if_pos e, show j = k by omega]
    exact Ev.step (fun r => impl_Homogen.l1.eq_2 _ _ _ _ r) (evNeg (by omega) (Ev.now _))
  | succ t ih =>
    intro j hj hg
    have hl := X_length l st j
    have e1 : rd (X_ l st j) (j : Int) = l.getD j 0 := by rw [X_get _ _ _ _ (by omega)]; unfold ev_; rw [if_neg (by omega)]
    have e2 : rd (X_ l st (j + 1)) (j : Int) = wrap64 (l.getD j 0 + st) := by rw [X_get _ _ _ _ (by omega)]; unfold ev_; rw [if_pos (by omega)]
    refine Ev.step (fun r => impl_Homogen.l1.eq_2 _ _ _ _ r) (evPos (by omega) (evPos (by omega) (evPos (by omega) ?_)))
    rw [e1, Int.toNat_natCast, X_set _ _ _ (by omega)]
    refine Ev.bind (Ev.now _) ?_
    rw [e2, in_s]
    refine Ev.bind (Ev.now _) ?_
    cases c : inS (wrap64 (l.getD j 0 + st)) (-100000) 100000 with
    | true =>
      refine evPos rfl ?_
      rw [up1 (by omega)]
      exact ih (j + 1) (by omega) (fun i hi => by
        by_cases ci : i = j
        · rw [ci]; exact c
        · exact hg i (by omega))
    | false =>
      refine evNeg (by decide) ?_
      have e : okS (X_ l st k) = false := okX_false (i := j) (by omega) (by unfold ev_; rw [if_pos (by omega)]; exact c)
      unfold RR
      rw [if_neg (by rw [e]; decide)]
      exact Ev.now _
theorem steps_spec {l : List Int} (h : Ser l) (st : Int) (k : Nat) (hk : k ≤ l.length) : ∀ t j, j + t = k → Ev (fun r => spec_Homogen.l0 r (X_ l st j) (k : Int) st (j : Int)) (RR l st k) := by
  have hm := h.most
  have h1 := h.one
  intro t
  induction t with
  | zero =>
    intro j hj
    have hl := X_length l st k
    have ok := specOk_ev (X_ l st k) (by omega)
    rw [decide_eq_true (show 1 ≤ (X_ l st k).length ∧ (X_ l st k).length ≤ 500 by omega), Bool.true_and] at ok
    rw [show j = k by omega]
    refine Ev.step (fun r => spec_Homogen.l0.eq_2 _ _ _ _ r) (evNeg (by omega) (Ev.bind ok ?_))
    unfold RR
    by_cases c : okS (X_ l st k) = true
    · simp only [if_pos c]
      exact Ev.now _
    · simp only [if_neg c]
      exact Ev.now _
  | succ t ih =>
    intro j hj
    have hl := X_length l st j
    have e1 : rd (X_ l st j) (j : Int) = l.getD j 0 := by rw [X_get _ _ _ _ (by omega)]; unfold ev_; rw [if_neg (by omega)]
    refine Ev.step (fun r => spec_Homogen.l0.eq_2 _ _ _ _ r) (evPos (by omega) (evPos (by omega) (evPos (by omega) ?_)))
    rw [e1, Int.toNat_natCast, X_set _ _ _ (by omega), up1 (by omega)]
    exact ih (j + 1) (by omega)
theorem parts_impl {l : List Int} (h : Ser l) (x4 : List Int) (k : Nat) (hk : k ≤ l.length) (Y : List Int × Int) : ∀ t j, j + t = l.length → Ev (fun r => impl_Homogen.l0 r x4 (l.length : Int) (k : Int) (PS l k) (PS l l.length - PS l k) l (l.length : Int) (l.length : Int)) Y → Ev (fun r => impl_Homogen.l0 r x4 (l.length : Int) (k : Int) (PS l (min j k)) (PS l j - PS l (min j k)) l (l.length : Int) (j : Int)) Y := by
  have hm := h.most
  intro t
  induction t with
  | zero =>
    intro j hj hY
    rw [show j = l.length by omega, Nat.min_eq_right hk]
    exact hY
  | succ t ih =>
    intro j hj hY
    have IH := ih (j + 1) (by omega) hY
    have b := h.pb (n := j + 1) (by omega)
    have bk := h.pb (n := k) (by omega)
    have es : PS l (j + 1) = PS l j + l.getD j 0 := rfl
    refine Ev.step (fun r => impl_Homogen.l0.eq_2 _ _ _ _ _ _ _ _ r) (evPos (by omega) (evPos (by omega) (evPos (by omega) ?_)))
    rw [up1 (by omega), rd_nat]
    by_cases c : j < k
    · refine evPos (by omega) ?_
      rw [Nat.min_eq_left (show j + 1 ≤ k by omega)] at IH
      rw [Nat.min_eq_left (show j ≤ k by omega)]
      have e0 : wrap64 (PS l j + l.getD j 0) = PS l (j + 1) := w64 (x := PS l (j + 1)) (by omega) (by omega)
      rw [e0, Int.sub_self]
      rw [Int.sub_self] at IH
      exact IH
    · refine evNeg (by omega) ?_
      rw [Nat.min_eq_right (show k ≤ j + 1 by omega)] at IH
      rw [Nat.min_eq_right (show k ≤ j by omega)]
      have e0 : wrap64 (PS l j - PS l k + l.getD j 0) = PS l (j + 1) - PS l k := by rw [w64 (by omega) (by omega)]; omega
      rw [e0]
      exact IH
def step_ (l : List Int) (k : Nat) : Int := wrap64 (Int.tdiv (wrap64 (wrap64 ((PS l l.length - PS l k) * (k : Int)) - wrap64 (PS l k * wrap64 ((l.length : Int) - (k : Int))))) (wrap64 ((k : Int) * wrap64 ((l.length : Int) - (k : Int)))))
theorem den {l : List Int} (h : Ser l) {k : Nat} (k1 : 1 ≤ k) (k2 : k < l.length) : ¬ wrap64 ((k : Int) * wrap64 ((l.length : Int) - (k : Int))) = 0 := by
  have hm := h.most
  rw [w64 (x := (l.length : Int) - (k : Int)) (by omega) (by omega)]
  have p0 : 0 < (k : Int) * ((l.length : Int) - (k : Int)) := Int.mul_pos (by omega) (by omega)
  have p1 : (k : Int) * ((l.length : Int) - (k : Int)) ≤ 500 * 500 := Int.mul_le_mul (by omega) (by omega) (by omega) (by omega)
  rw [w64 (by omega) (by omega)]
  omega
theorem clone_ev (l : List Int) (h : l.length ≤ 500) : slices_Clone_int64_int64.f l = some l := by
  simp only [slices_Clone_int64_int64.f, Option.bind_some, List.nil_append]
  rw [if_pos (by simp; omega)]

theorem homogen_both (l : List Int) (hl : l.length ≤ 1048576) : ∃ r : List Int × Int, Ev (fun k => spec_Homogen.f k l) r ∧ Ev (fun k => impl_Homogen.f k l) r ∧ r.1.length ≤ 1048576 := by
  have s0 := specOk_ev l hl
  have i0 := implOk_ev l hl
  cases ok : (decide (1 ≤ l.length ∧ l.length ≤ 500) && okS l) with
  | false =>
    rw [ok] at s0 i0
    refine ⟨([], 0), ?_, ?_, Nat.zero_le _⟩
    · simp only [spec_Homogen.f]
      exact Ev.bind s0 (evNeg (by decide) (Ev.now _))
    · simp only [impl_Homogen.f]
      exact Ev.bind i0 (evNeg (by decide) (Ev.now _))
  | true =>
    rw [ok] at s0 i0
    rw [Bool.and_eq_true, decide_eq_true_iff] at ok
    have h : Ser l := ⟨ok.1.1, ok.1.2, ok.2⟩
    have h1 := h.one
    have hm := h.most
    have bs := breakS h
    have ec := clone_ev l hm
    have e0 : ([] : List Int).length = 0 := rfl
    by_cases n1 : l.length = 1
    · refine ⟨(l, 0), ?_, ?_, hl⟩
      · simp only [spec_Homogen.f]
        refine Ev.bind s0 (evPos rfl (Ev.bind (Ev.now _) (evPos (by omega) (Ev.bind (Ev.now _) (Ev.bind bs ?_)))))
        refine evPos ?_ (Ev.now _)
        rw [n1]
        rfl
      · simp only [impl_Homogen.f]
        refine Ev.bind i0 (evPos rfl ?_)
        rw [ec]
        exact Ev.bind (Ev.now _) (evPos (by omega) (Ev.now _))
    · have bi := breakI h (by omega)
      obtain ⟨k1, k2⟩ := bk_rng l l.length (l.length - 1) 1 0 (-1) (by omega) (Nat.le_refl _) (.inr ⟨rfl, by omega⟩)
      obtain ⟨K, hK⟩ : ∃ K, K = bk l (l.length - 1) 1 0 (-1) := ⟨_, rfl⟩
      rw [← hK] at bs bi k1 k2
      obtain ⟨k, m⟩ := K
      have k1 : 1 ≤ k := k1
      have k2 : k < l.length := k2
      have hd := den h k1 k2
      refine ⟨RR l (step_ l k) k, ?_, ?_, ?_⟩
      · simp only [spec_Homogen.f]
        refine Ev.bind s0 (evPos rfl (Ev.bind (Ev.now _) (evPos (by omega) (Ev.bind (Ev.now _) (Ev.bind bs ?_)))))
        refine evNeg (by show ¬ (k : Int) = 0; omega) (evPos (by show 0 ≤ (k : Int); omega) (evPos (by show (k : Int) ≤ (l.length : Int); omega) ?_))
        refine Ev.bind (h.sumD (k := k) (by omega)) (Ev.bind (h.sumT (k := k) (by omega)) (evNeg hd ?_))
        have := steps_spec h (step_ l k) k (by omega) k 0 (by omega)
        rw [X_zero] at this
        exact this
      · simp only [impl_Homogen.f]
        refine Ev.bind i0 (evPos rfl ?_)
        rw [ec]
        refine Ev.bind (Ev.now _) (evNeg (by omega) (Ev.bind bi ?_))
        have P := parts_impl h l k (by omega) (RR l (step_ l k) k) l.length 0 (by omega)
        rw [Nat.zero_min] at P
        refine P ?_
        refine Ev.step (fun r => impl_Homogen.l0.eq_2 _ _ _ _ _ _ _ _ r) (evNeg (by omega) (evNeg hd ?_))
        have := steps_impl h (step_ l k) k (by omega) k 0 (by omega) (fun i hi => absurd hi (Nat.not_lt_zero _))
        rw [X_zero] at this
        exact this
      · unfold RR
        split
        · show (X_ l (step_ l k) k).length ≤ _
          rw [X_length]; exact hl
        · exact Nat.zero_le _

theorem FnExactHomogen : laws_FnExactHomogen.Pure := by
  intro l _ _ _
  refine Ev.rounds ?_
  simp only [laws_FnExactHomogen.f]
  by_cases hl : l.length ≤ 1048576
  rotate_left
  · exact evPos (by omega) (Ev.now _)
  obtain ⟨r, hs, hi, hr⟩ := homogen_both l hl
  refine evNeg (by first | omega | (simp; omega) | simp) ?_
  refine Ev.bind (toInt64S_ev _ (by first | assumption | omega | (simp; omega))) ?_
  refine Ev.bind hs ?_
  refine Ev.bind (toInt64S_ev _ (by first | assumption | omega | (simp; omega))) ?_
  refine Ev.bind hi ?_
  refine Ev.bind (eqInt64S_ev _ (by first | assumption | omega | (simp; omega))) ?_
  refine evPos (by first | rfl | trivial | simp) ?_
  refine Ev.step (fun k => laws_FnExactHomogen.j0.eq_2 _ _ _ _ _ _ _ k) ?_
  refine evNeg (by simp) ?_
  refine Ev.bind (toInt64S_ev _ (by first | assumption | omega | (simp; omega))) ?_
  refine Ev.bind (eqInt64S_ev _ (by first | assumption | omega | (simp; omega))) ?_
  refine evPos (by first | rfl | trivial | simp) ?_
  first | refine Ev.bind (markInt64S_ev _ 1 (by first | omega | (simp; omega)) (by omega)) ?_ | refine Ev.bind (markInt64S_ev _ _ (by first | omega | (simp; omega)) (by omega)) ?_
  refine evNeg (by first | omega | (simp; omega) | simp) ?_
  refine Ev.bind (eqInt64S_ev _ (by first | assumption | omega | (simp; omega))) ?_
  refine evPos (by first | rfl | trivial | simp) ?_
  refine Ev.step (fun k => laws_FnExactHomogen.j1.eq_2 _ _ _ _ _ k) ?_
  refine evNeg (by simp) ?_
  first | refine Ev.bind (markInt64S_ev _ 1 (by first | omega | (simp; omega)) (by omega)) ?_ | refine Ev.bind (markInt64S_ev _ _ (by first | omega | (simp; omega)) (by omega)) ?_
  refine Ev.bind (heldInt64S_ev _ 1 (by omega) (by omega)) ?_
  refine evNeg (by first | omega | (simp; omega) | simp) ?_
  refine evPos (by first | rfl | trivial | simp) ?_
  refine Ev.bind (toInt64S_ev _ (by first | assumption | omega | (simp; omega))) ?_
  refine Ev.bind hi ?_
  refine Ev.bind (eqInt64S_ev _ (by first | assumption | omega | (simp; omega))) ?_
  refine evPos (by first | rfl | trivial | simp) ?_
  refine Ev.step (fun k => laws_FnExactHomogen.j2.eq_2 _ _ _ k) ?_
  refine evNeg (by simp) ?_
  refine Ev.bind (heldInt64S_ev _ 1 (by omega) (by omega)) ?_
  refine evNeg (by first | omega | (simp; omega) | simp) ?_
  refine evPos (by first | rfl | trivial | simp) ?_
  exact Ev.now _
end Go.Proofs.Yteobnbichpadjab.Pure
