/- The plain statement of the law FnExactReliable: program and reference count the same answers into the same bins, and hand back a list of their own; no condition. -/
import Derived.Test.YteobnbichpadjaaInAll
import Derived.Test.YteobnbichpadjaaTRel
import Derived.Test.YteobnbichpadjaaQx11
import Derived.Test.YteobnbichpadjaaQx12
import Derived.Test.YteobnbichpadjaaQx14
import Derived.Test.YteobnbichpadjaaQx15
import Derived.Test.YteobnbichpadjaaQx29
set_option linter.unusedVariables false
set_option linter.unusedSimpArgs false
namespace Go.Proofs.Yteobnbichpadjaa.Pure
open Go.RowKit Go.Proofs.Yteobnbichpadjaa.Q Go.Proofs.Yteobnbichpadjaa.Gen Go.Proofs.YteobnbichpadjaaW.PrintWords Go.Proofs.YteobnbichpadjaaW.PrintMore

def Fair (l : List S34) : Prop := ∀ i : Nat, i < l.length → 0 ≤ (rd_T34 l (i : Int)).f0 ∧ (rd_T34 l (i : Int)).f0 ≤ 100
theorem ok_both (l : List S34) (h : l.length ≤ 1048576) : ∃ b : Bool, Ev (fun k => spec_l18ToldOk.f k l) b ∧ Ev (fun k => impl_probsOk.f k l) b ∧ (b = true → l.length ≤ 1000 ∧ Fair l) := by
  simp only [spec_l18ToldOk.f, impl_probsOk.f]
  by_cases hn : l.length ≤ 1000
  rotate_left
  · exact ⟨false, evPos (by omega) (Ev.now _), evPos (by omega) (Ev.now _), fun h => by cases h⟩
  have main : ∀ t j, j + t = l.length → ∃ b : Bool, Ev (fun k => spec_l18ToldOk.l0 k l (j : Int)) b ∧ Ev (fun k => impl_probsOk.l0 k l (l.length : Int) (j : Int)) b ∧ (b = true → ∀ i : Nat, j ≤ i → i < l.length → 0 ≤ (rd_T34 l (i : Int)).f0 ∧ (rd_T34 l (i : Int)).f0 ≤ 100) := by
    intro t
    induction t with
    | zero => intro j hj; exact ⟨true, Ev.step (fun k => spec_l18ToldOk.l0.eq_2 _ _ k) (evNeg (by omega) (Ev.now _)), Ev.step (fun k => impl_probsOk.l0.eq_2 _ _ _ k) (evNeg (by omega) (Ev.now _)), fun _ i h1 h2 => by omega⟩
    | succ t ih =>
      intro j hj
      obtain ⟨b, hs, hi, hb⟩ := ih (j + 1) (by omega)
      have u := up1 (j := j) (by omega)
      replace u := Aside0.mk u
      by_cases c : inS (rd_T34 l (j : Int)).f0 0 100 = true
      · refine ⟨b, Ev.step (fun k => spec_l18ToldOk.l0.eq_2 _ _ k) (evPos (by omega) (evPos (by omega) ?_)), Ev.step (fun k => impl_probsOk.l0.eq_2 _ _ _ k) (evPos (by omega) (evPos (by omega) (evPos (by omega) ?_))), fun hh i h1 h2 => ?_⟩
        · simp only [l2In_s, c, Option.bind_some]
          rw [u.out]; exact evPos trivial hs
        · simp only [in_s, c, Option.bind_some]
          rw [u.out]; exact evPos trivial hi
        · by_cases e : i = j
          · rw [e]; exact (inS_iff _ _ _).1 c
          · exact hb hh i (by omega) h2
      · rw [Bool.not_eq_true] at c
        refine ⟨false, Ev.step (fun k => spec_l18ToldOk.l0.eq_2 _ _ k) (evPos (by omega) (evPos (by omega) ?_)), Ev.step (fun k => impl_probsOk.l0.eq_2 _ _ _ k) (evPos (by omega) (evPos (by omega) (evPos (by omega) ?_))), fun h => by cases h⟩
        · simp only [l2In_s, c, Option.bind_some]
          exact evNeg (by decide) (Ev.now _)
        · simp only [in_s, c, Option.bind_some]
          exact evNeg (by decide) (Ev.now _)
  obtain ⟨b, hs, hi, hb⟩ := main l.length 0 (by omega)
  exact ⟨b, evNeg (by omega) hs, evNeg (by omega) hi, fun hh => ⟨hn, fun i hi => hb hh i (Nat.zero_le _) hi⟩⟩

def bin (l : List S34) (i : Nat) : Nat := (rd_T34 l (i : Int)).f0.toNat / 10
/-- What bin b holds of the first n answers. -/
def cb (l : List S34) (b : Nat) : Nat → S36
  | 0 => ⟨0, 0⟩
  | n + 1 => if bin l n = b then ⟨wrap64 ((cb l b n).f0 + 1), if (rd_T34 l (n : Int)).f1 = true then wrap64 ((cb l b n).f1 + 1) else (cb l b n).f1⟩ else cb l b n
theorem bin_eq (l : List S34) (h : Fair l) (i : Nat) (hi : i < l.length) : wrap64 (Int.tdiv (rd_T34 l (i : Int)).f0 10) = ((bin l i : Nat) : Int) ∧ bin l i ≤ 10 := by
  obtain ⟨h0, h1⟩ := h i hi
  unfold bin
  obtain ⟨p, hp⟩ := Int.eq_ofNat_of_zero_le h0
  rw [hp] at h1 ⊢
  have e : Int.tdiv (p : Int) 10 = ((p / 10 : Nat) : Int) := rfl
  rw [e, Int.toNat_natCast]
  exact ⟨w64 (by omega) (by omega), by omega⟩
theorem upd (m q : Nat) (f f' : Nat → S36) (hq : q < m) (h : ∀ b, b ≠ q → f' b = f b) : ((List.range m).map f).set q (f' q) = (List.range m).map f' := by
  apply List.ext_getElem?
  intro i
  rw [List.getElem?_set]
  by_cases e : q = i
  · subst e
    simp [hq]
  · rw [if_neg e]
    by_cases hi : i < m
    · simp [hi, h i (fun x => e x.symm)]
    · simp [hi]
theorem rd_map (m q : Nat) (f : Nat → S36) (hq : q < m) : rd_T36 ((List.range m).map f) (q : Int) = f q := by
  simp [rdn36, List.getD_eq_getElem?_getD, hq]

theorem impl_loop (l : List S34) (hl : l.length ≤ 1000) (h : Fair l) : ∀ t j, j + t = l.length → Ev (fun k => impl_Reliable.l0 k ((List.range 11).map fun b => cb l b j) l (l.length : Int) (j : Int)) ((List.range 11).map fun b => cb l b l.length) := by
  intro t
  induction t with
  | zero =>
    intro j hj
    obtain rfl : j = l.length := by omega
    exact Ev.step (fun k => impl_Reliable.l0.eq_2 _ _ _ _ k) (evNeg (by omega) (Ev.now _))
  | succ t ih =>
    intro j hj
    have IH := ih (j + 1) (by omega)
    obtain ⟨e, hq⟩ := bin_eq l h j (by omega)
    have u := up1 (j := j) (by omega)
    replace u := Aside0.mk u
    replace e := Aside0.mk e
    have hlen : ((List.range 11).map fun b => cb l b j).length = 11 := by simp
    refine Ev.step (fun k => impl_Reliable.l0.eq_2 _ _ _ _ k) (evPos (by omega) (evPos (by omega) (evPos (by omega) ?_)))
    rw [e.out, u.out]
    refine evPos (by omega) (evPos (by rw [hlen]; omega) ?_)
    rw [Int.toNat_natCast, rd_map 11 _ _ (by omega)]
    simp only [Option.bind_some]
    rw [rdset36 _ _ _ (by rw [hlen]; omega)]
    have S := upd 11 (bin l j) (fun b => cb l b j) (fun b => cb l b (j + 1)) (by omega) (fun b hb => by
      show cb l b (j + 1) = cb l b j
      rw [cb, if_neg (fun x => hb x.symm)])
    have S0 : cb l (bin l j) (j + 1) = ⟨wrap64 ((cb l (bin l j) j).f0 + 1), if (rd_T34 l (j : Int)).f1 = true then wrap64 ((cb l (bin l j) j).f1 + 1) else (cb l (bin l j) j).f1⟩ := by rw [cb, if_pos rfl]
    simp only [S0] at S
    by_cases c : (rd_T34 l (j : Int)).f1 = true
    · refine evPos c ?_
      rw [List.set_set]
      rw [if_pos c] at S
      rw [S]
      exact IH
    · refine evNeg c ?_
      rw [if_neg c] at S
      rw [S]
      exact IH
theorem row_spec (l : List S34) (hl : l.length ≤ 1000) (h : Fair l) (b : Nat) (hb : b ≤ 10) (o : List S36) (ho : o.length ≤ 11) (X : List S36) (hX : Ev (fun k => spec_Reliable.l0 k l (o ++ [cb l b l.length]) ((b + 1 : Nat) : Int)) X) : ∀ t j, j + t = l.length → Ev (fun k => spec_Reliable.l1 k l o (b : Int) (j : Int) (cb l b j).f0 (cb l b j).f1) X := by
  intro t
  induction t with
  | zero =>
    intro j hj
    obtain rfl : j = l.length := by omega
    refine Ev.step (fun k => spec_Reliable.l1.eq_2 _ _ _ _ _ _ k) (evNeg (by omega) (evPos (by omega) ?_))
    rw [up1 (by omega)]
    exact hX
  | succ t ih =>
    intro j hj
    have IH := ih (j + 1) (by omega)
    obtain ⟨e, hq⟩ := bin_eq l h j (by omega)
    have u := up1 (j := j) (by omega)
    replace u := Aside0.mk u
    replace e := Aside0.mk e
    refine Ev.step (fun k => spec_Reliable.l1.eq_2 _ _ _ _ _ _ k) (evPos (by omega) (evPos (by omega) ?_))
    rw [e.out, u.out]
    rw [cb] at IH
    by_cases c : bin l j = b
    · rw [if_pos c] at IH
      refine evPos (by rw [c]) ?_
      by_cases c2 : (rd_T34 l (j : Int)).f1 = true
      · rw [if_pos c2] at IH
        exact evPos c2 IH
      · rw [if_neg c2] at IH
        exact evNeg c2 IH
    · rw [if_neg c] at IH
      exact evNeg (by omega) IH
theorem spec_loop (l : List S34) (hl : l.length ≤ 1000) (h : Fair l) : ∀ t b, b + t = 11 → Ev (fun k => spec_Reliable.l0 k l ((List.range b).map fun b => cb l b l.length) (b : Int)) ((List.range 11).map fun b => cb l b l.length) := by
  intro t
  induction t with
  | zero =>
    intro b hb
    obtain rfl : b = 11 := by omega
    exact Ev.step (fun k => spec_Reliable.l0.eq_2 _ _ _ k) (evNeg (by omega) (Ev.now _))
  | succ t ih =>
    intro b hb
    have IH := ih (b + 1) (by omega)
    rw [List.range_succ, List.map_append, List.map_singleton] at IH
    exact Ev.step (fun k => spec_Reliable.l0.eq_2 _ _ _ k) (evPos (by omega) (row_spec l hl h b (by omega) _ (by simp; omega) _ IH l.length 0 (by omega)))

theorem reliable_both (l : List S34) (h : l.length ≤ 1048576) : ∃ r : List S36, Ev (fun k => spec_Reliable.f k l) r ∧ Ev (fun k => impl_Reliable.f k l) r ∧ r.length ≤ 1048576 := by
  obtain ⟨b, hs, hi, hb⟩ := ok_both l h
  simp only [spec_Reliable.f, impl_Reliable.f, Option.bind_some]
  cases b with
  | false => exact ⟨[], Ev.bind hs (evNeg (by decide) (Ev.now _)), Ev.bind hi (evNeg (by decide) (Ev.now _)), Nat.zero_le _⟩
  | true =>
    obtain ⟨hl, hf⟩ := hb rfl
    have I0 := impl_loop l hl hf l.length 0 (by omega)
    have e : ((List.range 11).map fun b => cb l b 0) = List.replicate 11 z36 := by rfl
    rw [e] at I0
    exact ⟨_, Ev.bind hs (evPos rfl (spec_loop l hl hf 11 0 (by omega))), Ev.bind hi (evPos rfl (evPos (by decide) I0)), by simp⟩

theorem FnExactReliable : laws_FnExactReliable.Pure := by
  intro l h
  refine Ev.rounds ?_
  simp only [laws_FnExactReliable.f]
  by_cases hl : l.length ≤ 1048576
  rotate_left
  · exact Ev.bind (szProbS_big _ h hl) (evPos (by decide) (Ev.now _))
  obtain ⟨r, hs, hi, hr⟩ := reliable_both (l.map convProb) (by simpa using hl)
  refine Ev.bind (szProbS_ok _ hl) ?_
  refine evNeg (by first | omega | (simp; omega) | simp) ?_
  refine Ev.bind (toProbS_ev _ (by first | assumption | omega | (simp; omega))) ?_
  refine Ev.bind hs ?_
  refine Ev.bind (toProbS_ev _ (by first | assumption | omega | (simp; omega))) ?_
  refine Ev.bind hi ?_
  refine Ev.bind (eqBinS_ev _ (by first | assumption | omega | (simp; omega))) ?_
  refine evPos (by first | rfl | trivial | simp) ?_
  refine Ev.bind (toProbS_ev _ (by first | assumption | omega | (simp; omega))) ?_
  refine Ev.bind (eqProbS_ev _ (by first | assumption | omega | (simp; omega))) ?_
  refine evPos (by first | rfl | trivial | simp) ?_
  first | refine Ev.bind (markProbS_ev _ 1 (by first | omega | (simp; omega)) (by omega)) ?_ | refine Ev.bind (markProbS_ev _ _ (by first | omega | (simp; omega)) (by omega)) ?_
  refine evNeg (by first | omega | (simp; omega) | simp) ?_
  refine Ev.bind (eqBinS_ev _ (by first | assumption | omega | (simp; omega))) ?_
  refine Ev.step (fun k => laws_FnExactReliable.j0.eq_2 _ _ _ _ k) ?_
  refine evNeg (by simp) ?_
  first | refine Ev.bind (markBinS_ev _ 1 (by first | omega | (simp; omega)) (by omega)) ?_ | refine Ev.bind (markBinS_ev _ _ (by first | omega | (simp; omega)) (by omega)) ?_
  refine Ev.bind (heldBinS_ev _ 1 (by omega) (by omega)) ?_
  refine evNeg (by first | omega | (simp; omega) | simp) ?_
  refine evPos (by first | rfl | trivial | simp) ?_
  refine Ev.bind (toProbS_ev _ (by first | assumption | omega | (simp; omega))) ?_
  refine Ev.bind hi ?_
  refine Ev.bind (eqBinS_ev _ (by first | assumption | omega | (simp; omega))) ?_
  refine evPos (by first | rfl | trivial | simp) ?_
  refine Ev.bind (heldBinS_ev _ 1 (by omega) (by omega)) ?_
  refine evNeg (by first | omega | (simp; omega) | simp) ?_
  refine evPos (by first | rfl | trivial | simp) ?_
  exact Ev.now _
end Go.Proofs.Yteobnbichpadjaa.Pure
