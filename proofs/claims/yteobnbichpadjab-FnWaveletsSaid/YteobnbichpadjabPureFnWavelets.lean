/- The plain statement of the law FnWavelets: a drawn list comes back from its wavelets; program and reference take the same lists; a list of equal numbers has differences of 0 alone; no condition. -/
import Derived.Test.YteobnbichpadjabDraw
import Derived.Test.YteobnbichpadjabInS
import Derived.Test.YteobnbichpadjabQx1
import Derived.Test.YteobnbichpadjabQx10
import Derived.Test.YteobnbichpadjabQx11
import Derived.Test.YteobnbichpadjabQx13
import Derived.Test.YteobnbichpadjabQx14
import Derived.Test.YteobnbichpadjabQx15
import Derived.Test.YteobnbichpadjabQx16
import Derived.Test.YteobnbichpadjabQx17
import Derived.Test.YteobnbichpadjabQx18
import Derived.Test.YteobnbichpadjabQx7
import Derived.Test.YteobnbichpadjabQx8
set_option linter.unusedVariables false
set_option linter.unusedSimpArgs false
namespace Go.Proofs.Yteobnbichpadjab.Pure
open Go.RowKit Go.Proofs.Yteobnbichpadjab.Q Go.Proofs.Yteobnbichpadjab.Gen Go.Proofs.Yteobnbichpadjab.Draw Go.Proofs.YteobnbichpadjabW.PrintWords Go.Proofs.YteobnbichpadjabW.PrintMore

/-! lists told by a function -/
theorem tab_congr {n m : Nat} {f g : Nat → Int} (hn : n = m) (h : ∀ i, i < n → f i = g i) : tab n f = tab m g := by
  subst hn
  exact List.map_congr_left fun i hi => h i (List.mem_range.1 hi)
theorem tab_zero (f : Nat → Int) : tab 0 f = [] := rfl
theorem tab_app (a b : Nat) (f g : Nat → Int) : tab a f ++ tab b g = tab (a + b) (fun j => if j < a then f j else g (j - a)) := by
  induction b with
  | zero =>
    rw [tab_zero, List.append_nil]
    exact tab_congr rfl fun i hi => (if_pos hi).symm
  | succ b ih =>
    rw [tab_succ, ← List.append_assoc, ih, ← Nat.add_assoc, tab_succ (a + b)]
    simp only [show ¬ a + b < a by omega, if_false, show a + b - a = b by omega]
theorem tab_two (n : Nat) (f : Nat → Int) : tab n f ++ [f n, f (n + 1)] = tab (n + 2) f := by
  rw [tab_succ (n + 1), tab_succ n, List.append_assoc]
  rfl
theorem self_tab (x : List Int) : tab x.length (fun j => rd x (j : Int)) = x := by
  apply List.ext_getElem (tab_length _ _)
  intro i h1 h2
  simp only [tab, List.getElem_map, List.getElem_range, rd_nat, List.getD_eq_getElem?_getD, List.getElem?_eq_getElem h2, Option.getD_some]
theorem drop_tab (x : List Int) (m : Nat) : x.drop m = tab (x.length - m) (fun j => rd x ((m + j : Nat) : Int)) := by
  apply List.ext_getElem (by rw [tab_length, List.length_drop])
  intro i h1 h2
  rw [List.length_drop] at h1
  simp only [tab, List.getElem_map, List.getElem_range, rd_nat, List.getD_eq_getElem?_getD, List.getElem?_eq_getElem (show m + i < x.length by omega), Option.getD_some, List.getElem_drop]
theorem rd_tab (n : Nat) (f : Nat → Int) (j : Nat) (h : j < n) : rd (tab n f) (j : Int) = f j := by rw [rd_nat, tab_get _ _ _ h]
theorem rd_out (x : List Int) (j : Nat) (h : x.length ≤ j) : rd x (j : Int) = 0 := by
  rw [rd_nat, List.getD_eq_getElem?_getD, List.getElem?_eq_none h]
  rfl

/-! one step -/
def Df (x : List Int) (i : Nat) : Int := rd x ((2 * i + 1 : Nat) : Int) - rd x ((2 * i : Nat) : Int)
def Mn (x : List Int) (i : Nat) : Int := rd x ((2 * i : Nat) : Int) + Df x i / 2
def Mh (x : List Int) (m i : Nat) : Int := if 2 * i + 1 < m then Mn x i else rd x ((2 * i : Nat) : Int)
def wv (x : List Int) (m j : Nat) : Int := if j < (m + 1) / 2 then Mh x m j else if j < m then Df x (j - (m + 1) / 2) else rd x (j : Int)
def WV (x : List Int) (m : Nat) : List Int := tab x.length (wv x m)
theorem WV_length (x : List Int) (m : Nat) : (WV x m).length = x.length := tab_length _ _
theorem wv_list (x : List Int) (m : Nat) (h : m ≤ x.length) : (tab ((m + 1) / 2) (Mh x m) ++ tab (m / 2) (Df x)) ++ x.drop m = WV x m := by
  rw [drop_tab, tab_app, tab_app]
  refine tab_congr (by omega) fun j hj => ?_
  unfold wv
  by_cases c1 : j < (m + 1) / 2
  · rw [if_pos (by omega), if_pos c1, if_pos c1]
  · by_cases c2 : j < m
    · rw [if_pos (by omega), if_neg c1, if_neg c1, if_pos c2]
    · rw [if_neg (by omega), if_neg c1, if_neg c2, show m + (j - ((m + 1) / 2 + m / 2)) = j by omega]
theorem mh_odd (x : List Int) (m : Nat) (h : m % 2 = 1) : tab (m / 2) (Mn x) ++ [rd x ((m - 1 : Nat) : Int)] = tab ((m + 1) / 2) (Mh x m) := by
  rw [show (m + 1) / 2 = m / 2 + 1 by omega, tab_succ]
  congr 1
  · exact tab_congr rfl fun i hi => (if_pos (by omega)).symm
  · unfold Mh
    rw [if_neg (by omega), show 2 * (m / 2) = m - 1 by omega]
theorem mh_even (x : List Int) (m : Nat) (h : ¬ m % 2 = 1) : tab (m / 2) (Mn x) = tab ((m + 1) / 2) (Mh x m) :=
  tab_congr (by omega) fun i hi => (if_pos (by omega)).symm
theorem wv_mn (x : List Int) (m i : Nat) (hm : m ≤ x.length) (h : 2 * i + 1 < m) : rd (WV x m) (i : Int) = Mn x i := by
  unfold WV
  rw [rd_tab _ _ _ (by omega)]
  unfold wv Mh
  rw [if_pos (by omega), if_pos h]
theorem wv_df (x : List Int) (m i : Nat) (hm : m ≤ x.length) (h : 2 * i + 1 < m) : rd (WV x m) (((m + 1) / 2 + i : Nat) : Int) = Df x i := by
  unfold WV
  rw [rd_tab _ _ _ (by omega)]
  unfold wv
  rw [if_neg (by omega), if_pos (by omega), show (m + 1) / 2 + i - (m + 1) / 2 = i by omega]
theorem wv_last (x : List Int) (m : Nat) (hm : m ≤ x.length) (h : m % 2 = 1) : rd (WV x m) ((m / 2 : Nat) : Int) = rd x ((2 * (m / 2) : Nat) : Int) := by
  unfold WV
  rw [rd_tab _ _ _ (by omega)]
  unfold wv Mh
  rw [if_pos (by omega), if_neg (by omega)]

/-- What is known of the numbers: those that are stepped on lie within 2^40, all within 2^41. -/
structure Bd (x : List Int) (m : Nat) : Prop where
  len : x.length ≤ 4096
  le : m ≤ x.length
  all : ∀ j : Nat, -2199023255552 ≤ rd x (j : Int) ∧ rd x (j : Int) ≤ 2199023255552
  hd : ∀ j : Nat, j < m → -1099511627776 ≤ rd x (j : Int) ∧ rd x (j : Int) ≤ 1099511627776
theorem Bd.df {x : List Int} {m : Nat} (h : Bd x m) {i : Nat} (hi : 2 * i + 1 < m) : -2199023255552 ≤ Df x i ∧ Df x i ≤ 2199023255552 := by
  have a := h.hd (2 * i) (by omega)
  have b := h.hd (2 * i + 1) (by omega)
  unfold Df
  omega
theorem Bd.mn {x : List Int} {m : Nat} (h : Bd x m) {i : Nat} (hi : 2 * i + 1 < m) : -1099511627776 ≤ Mn x i ∧ Mn x i ≤ 1099511627776 := by
  have a := h.hd (2 * i) (by omega)
  have b := h.hd (2 * i + 1) (by omega)
  unfold Mn Df
  omega
theorem Bd.mh {x : List Int} {m : Nat} (h : Bd x m) {i : Nat} (hi : i < (m + 1) / 2) : -1099511627776 ≤ Mh x m i ∧ Mh x m i ≤ 1099511627776 := by
  unfold Mh
  by_cases c : 2 * i + 1 < m
  · rw [if_pos c]; exact h.mn c
  · rw [if_neg c]; exact h.hd _ (by omega)
theorem Bd.step {x : List Int} {m : Nat} (h : Bd x m) : Bd (WV x m) ((m + 1) / 2) := by
  have hl := WV_length x m
  have hm := h.le
  refine ⟨by rw [hl]; exact h.len, by omega, fun j => ?_, fun j hj => ?_⟩
  · by_cases c : j < x.length
    · unfold WV
      rw [rd_tab _ _ _ c]
      unfold wv
      by_cases c1 : j < (m + 1) / 2
      · rw [if_pos c1]; have := h.mh c1; omega
      · rw [if_neg c1]
        by_cases c2 : j < m
        · rw [if_pos c2]; exact h.df (by omega)
        · rw [if_neg c2]; exact h.all j
    · rw [rd_out _ _ (by omega)]; omega
  · unfold WV
    rw [rd_tab _ _ _ (by omega)]
    unfold wv
    rw [if_pos hj]
    exact h.mh hj

theorem half_up (m : Nat) (h : m ≤ 4096) : wrap64 (Int.tdiv (wrap64 ((m : Int) + 1)) 2) = (((m + 1) / 2 : Nat) : Int) := by
  rw [up1 (by omega)]
  have : Int.tdiv ((m + 1 : Nat) : Int) 2 = (((m + 1) / 2 : Nat) : Int) := rfl
  rw [this, w64 (by omega) (by omega)]
theorem half_down (m : Nat) (h : m ≤ 4096) : wrap64 (Int.tdiv (m : Int) 2) = ((m / 2 : Nat) : Int) := by
  have : Int.tdiv (m : Int) 2 = ((m / 2 : Nat) : Int) := rfl
  rw [this, w64 (by omega) (by omega)]
theorem odd_ (m : Nat) : Int.tmod (m : Int) 2 = ((m % 2 : Nat) : Int) := rfl
theorem wadd {a b : Nat} (ha : a ≤ 1048576) (hb : b ≤ 1048576) : wrap64 ((a : Int) + (b : Int)) = ((a + b : Nat) : Int) := by
  rw [w64 (by omega) (by omega)]; omega
theorem up2 {i : Nat} (h : i ≤ 1048576) : wrap64 (((2 * i : Nat) : Int) + 2) = ((2 * (i + 1) : Nat) : Int) := by
  rw [w64 (by omega) (by omega)]; omega
theorem dn1 {m : Nat} (h : 1 ≤ m) (h2 : m ≤ 1048576) : wrap64 ((m : Int) - 1) = ((m - 1 : Nat) : Int) := by
  rw [w64 (by omega) (by omega)]; omega
theorem eDf {x : List Int} {m : Nat} (h : Bd x m) {i : Nat} (hi : 2 * i + 1 < m) : wrap64 (rd x ((2 * i + 1 : Nat) : Int) - rd x ((2 * i : Nat) : Int)) = Df x i := by
  have := h.df hi
  unfold Df at this ⊢
  exact w64 (by omega) (by omega)
theorem eMn {x : List Int} {m : Nat} (h : Bd x m) {i : Nat} (hi : 2 * i + 1 < m) : wrap64 (rd x ((2 * i : Nat) : Int) + Df x i / 2) = Mn x i := by
  have := h.mn hi
  unfold Mn at this ⊢
  exact w64 (by omega) (by omega)

/-! the steps of program and reference -/
theorem row_impl (s : Int) (x : List Int) (m : Nat) (h : Bd x m) (X : List Int × Bool) : ∀ t i, i + t = m / 2 → Ev (fun k => impl_Wave.l1 k s x (m : Int) (tab (m / 2) (Mn x)) (tab (m / 2) (Df x)) ((2 * (m / 2) : Nat) : Int)) X → Ev (fun k => impl_Wave.l1 k s x (m : Int) (tab i (Mn x)) (tab i (Df x)) ((2 * i : Nat) : Int)) X := by
  intro t
  have hn := h.len
  have hm := h.le
  induction t with
  | zero =>
    intro i hi h
    rw [show i = m / 2 by omega]
    exact h
  | succ t ih =>
    intro i hi hE
    have IH := ih (i + 1) (by omega) hE
    have l1 := tab_length i (Mn x)
    have l2 := tab_length i (Df x)
    refine Ev.step (fun k => impl_Wave.l1.eq_2 _ _ _ _ _ _ k) ?_
    rw [up1 (by omega), up2 (by omega), eDf h (by omega)]
    refine evPos (by omega) (evPos (by omega) (evPos (by omega) (evPos (by omega) (evPos (by omega) ?_))))
    simp only [impl_half.f, Option.bind_some]
    rw [eMn h (by omega)]
    refine evPos (by omega) (evPos (by omega) ?_)
    rw [← tab_succ, ← tab_succ]
    exact IH
theorem row_spec (s u : Int) (x : List Int) (m : Nat) (h : Bd x m) (X : List Int × Bool) : ∀ t i, i + t = m / 2 → Ev (fun k => spec_Wave.l1 k s x (m : Int) u (tab (m / 2) (Mn x)) (tab (m / 2) (Df x)) ((2 * (m / 2) : Nat) : Int)) X → Ev (fun k => spec_Wave.l1 k s x (m : Int) u (tab i (Mn x)) (tab i (Df x)) ((2 * i : Nat) : Int)) X := by
  intro t
  have hn := h.len
  have hm := h.le
  induction t with
  | zero =>
    intro i hi h
    rw [show i = m / 2 by omega]
    exact h
  | succ t ih =>
    intro i hi hE
    have IH := ih (i + 1) (by omega) hE
    have l1 := tab_length i (Mn x)
    have l2 := tab_length i (Df x)
    refine Ev.step (fun k => spec_Wave.l1.eq_2 _ _ _ _ _ _ _ k) ?_
    rw [up1 (by omega), up2 (by omega), eDf h (by omega), eMn h (by omega)]
    refine evPos (by omega) (evPos (by omega) (evPos (by omega) (evPos (by omega) (evPos (by omega) (evPos (by omega) (evPos (by omega) ?_))))))
    rw [← tab_succ, ← tab_succ]
    exact IH

def WW : Nat → List Int → Nat → List Int
  | 0, x, _ => x
  | t + 1, x, m => if 1 < m then WW t (WV x m) ((m + 1) / 2) else x
theorem WW_bd : ∀ t x m, Bd x m → (WW t x m).length = x.length ∧ ∀ j : Nat, -2199023255552 ≤ rd (WW t x m) (j : Int) ∧ rd (WW t x m) (j : Int) ≤ 2199023255552 := by
  intro t
  induction t with
  | zero => intro x m h; exact ⟨rfl, h.all⟩
  | succ t ih =>
    intro x m h
    unfold WW
    by_cases c : 1 < m
    · rw [if_pos c]
      obtain ⟨h1, h2⟩ := ih _ _ h.step
      exact ⟨by rw [h1, WV_length], h2⟩
    · rw [if_neg c]; exact ⟨rfl, h.all⟩
theorem cut_ (x y : List Int) (m : Nat) (hy : y.length = m) (hm : m ≤ x.length) : y.take (min y.length x.length) ++ x.drop (min y.length x.length) = y ++ x.drop m := by
  rw [hy, Nat.min_eq_left hm, List.take_of_length_le (by omega)]
theorem wave_impl : ∀ (t : Nat) x m, t ≤ 12 → Bd x m → Ev (fun k => impl_Wave.l0 k (t : Int) x (m : Int)) (WW t x m, true) := by
  intro t
  induction t with
  | zero =>
    intro x m _ h
    refine Ev.step (fun k => impl_Wave.l0.eq_2 _ _ _ k) (evNeg (by omega) ?_)
    exact Ev.step (fun k => impl_Wave.j2.eq_2 _ _ _ _ k) (evNeg (by decide) (Ev.now _))
  | succ t ih =>
    intro x m ht h
    have hn := h.len
    have hm := h.le
    refine Ev.step (fun k => impl_Wave.l0.eq_2 _ _ _ k) (evPos (by omega) ?_)
    unfold WW
    by_cases c : 1 < m
    rotate_left
    · rw [if_neg c, decide_eq_false (by omega)]
      exact Ev.step (fun k => impl_Wave.j2.eq_2 _ _ _ _ k) (evNeg (by decide) (Ev.now _))
    rw [if_pos c, decide_eq_true (by omega)]
    refine Ev.step (fun k => impl_Wave.j2.eq_2 _ _ _ _ k) (evPos rfl ?_)
    refine row_impl _ x m h _ (m / 2) 0 (by omega) ?_
    have IH := ih (WV x m) ((m + 1) / 2) (by omega) h.step
    have l1 := tab_length (m / 2) (Mn x)
    have l2 := tab_length (m / 2) (Df x)
    have l3 := tab_length ((m + 1) / 2) (Mh x m)
    have ed : wrap64 (((t + 1 : Nat) : Int) - 1) = (t : Int) := by rw [w64 (by omega) (by omega)]; omega
    have fin : Ev (fun k => if (tab ((m + 1) / 2) (Mh x m)).length + (tab (m / 2) (Df x)).length < 17592186044416 then (some (tab ((m + 1) / 2) (Mh x m) ++ tab (m / 2) (Df x) : List Int)).bind fun y => impl_Wave.l0 k (wrap64 (((t + 1 : Nat) : Int) - 1)) (y.take (min y.length x.length) ++ x.drop (min y.length x.length)) ((tab ((m + 1) / 2) (Mh x m)).length : Int) else none) (WW t (WV x m) ((m + 1) / 2), true) := by
      refine evPos (by omega) ?_
      rw [ed]
      refine Ev.bind (Ev.now _) ?_
      rw [cut_ _ _ m (by rw [List.length_append]; omega) hm, wv_list x m hm, l3]
      exact IH
    refine Ev.step (fun k => impl_Wave.l1.eq_2 _ _ _ _ _ _ k) ?_
    rw [up1 (by omega)]
    refine evNeg (by omega) ?_
    rw [odd_, dn1 (by omega) (by omega)]
    by_cases ho : m % 2 = 1
    · refine evPos (by omega) (evPos (by omega) (evPos (by omega) (evPos (by omega) ?_)))
      rw [mh_odd x m ho]
      exact Ev.bind (Ev.now _) fin
    · rw [mh_even x m ho]
      exact evNeg (by omega) fin
theorem wave_spec (st : Nat) (hst : st ≤ 12) : ∀ (t s : Nat) x m, s + t = st → Bd x m → Ev (fun k => spec_Wave.l0 k (st : Int) x (m : Int) (s : Int)) (WW t x m, true) := by
  intro t
  induction t with
  | zero =>
    intro s x m hs h
    refine Ev.step (fun k => spec_Wave.l0.eq_2 _ _ _ _ k) (evNeg (by omega) ?_)
    exact Ev.step (fun k => spec_Wave.j2.eq_2 _ _ _ _ _ k) (evNeg (by decide) (Ev.now _))
  | succ t ih =>
    intro s x m hs h
    have hn := h.len
    have hm := h.le
    refine Ev.step (fun k => spec_Wave.l0.eq_2 _ _ _ _ k) (evPos (by omega) ?_)
    unfold WW
    by_cases c : 1 < m
    rotate_left
    · rw [if_neg c, decide_eq_false (by omega)]
      exact Ev.step (fun k => spec_Wave.j2.eq_2 _ _ _ _ _ k) (evNeg (by decide) (Ev.now _))
    rw [if_pos c, decide_eq_true (by omega)]
    refine Ev.step (fun k => spec_Wave.j2.eq_2 _ _ _ _ _ k) (evPos rfl ?_)
    refine row_spec _ _ x m h _ (m / 2) 0 (by omega) ?_
    have IH := ih (s + 1) (WV x m) ((m + 1) / 2) (by omega) h.step
    have l1 := tab_length (m / 2) (Mn x)
    have l2 := tab_length (m / 2) (Df x)
    have l3 := tab_length ((m + 1) / 2) (Mh x m)
    have hd : (x.drop m).length = x.length - m := List.length_drop
    have e0 : (([] : List Int)).length = 0 := rfl
    have e1 : (([] : List Int) ++ x.drop m) = x.drop m := rfl
    have fin : Ev (fun k => (some (([] : List Int) : List Int)).bind fun y199 => (if 0 ≤ (m : Int) then (if (m : Int) ≤ (x.length : Int) then ((some (x.drop (m : Int).toNat : List Int)).bind fun y202 => (if y199.length + y202.length < 17592186044416 then ((some (y199 ++ y202 : List Int)).bind fun y206 => (if (tab ((m + 1) / 2) (Mh x m)).length + (tab (m / 2) (Df x)).length < 17592186044416 then ((some (tab ((m + 1) / 2) (Mh x m) ++ tab (m / 2) (Df x) : List Int)).bind fun y209 => (if y209.length + y206.length < 17592186044416 then (spec_Wave.l0 k (st : Int) (y209 ++ y206) ((tab ((m + 1) / 2) (Mh x m)).length : Int) (wrap64 ((s : Int) + 1))) else (none))) else (none))) else (none))) else (none)) else (none))) (WW t (WV x m) ((m + 1) / 2), true) := by
      refine Ev.bind (Ev.now _) (evPos (by omega) (evPos (by omega) (Ev.bind (Ev.now _) ?_)))
      rw [Int.toNat_natCast, e0, e1]
      refine evPos (by omega) (Ev.bind (Ev.now _) (evPos (by omega) (Ev.bind (Ev.now _) (evPos (by rw [List.length_append]; omega) ?_))))
      rw [wv_list x m hm, l3, up1 (by omega)]
      exact IH
    refine Ev.step (fun k => spec_Wave.l1.eq_2 _ _ _ _ _ _ _ k) ?_
    rw [up1 (by omega)]
    refine evNeg (by omega) ?_
    rw [odd_, dn1 (by omega) (by omega)]
    by_cases ho : m % 2 = 1
    · refine evPos (by omega) (evPos (by omega) (evPos (by omega) (evPos (by omega) ?_)))
      rw [mh_odd x m ho]
      exact Ev.bind (Ev.now _) fin
    · rw [mh_even x m ho]
      exact evNeg (by omega) fin

/-! ranges -/
def sm (M : Int) (l : List Int) : Bool := l.all fun x => inS x (-M) M
theorem within_ev (l : List Int) (M : Int) (h : l.length ≤ 4096) (h0 : 0 ≤ M) (h1 : M ≤ 1152921504606846976) : Ev (fun k => impl_within.f k l M) (sm M l) := by
  simp only [impl_within.f]
  refine evNeg (by omega) ?_
  have hw : wrap64 (-M) = -M := w64 (by omega) (by omega)
  have := scan (fun k i => impl_within.l0 k M l (l.length : Int) i) l.length (fun j => sm M (l.drop j)) ?_ ?_ 0 (by omega)
  · simpa using this
  · intro j hj
    have e : sm M (l.drop j) = (inS (l.getD j 0) (-M) M && sm M (l.drop (j + 1))) := all_drop l _ 0 j hj
    simp only [e]
    by_cases hb : inS (l.getD j 0) (-M) M = true
    · refine .inl ⟨by rw [hb, Bool.true_and], 0, fun k _ => ?_⟩
      simp only [impl_within.l0]
      rw [if_pos (by omega), if_pos (by omega), if_pos (by omega), rd_nat, hw, in_s, hb, Option.bind_some, if_pos rfl, up1 (by omega)]
    · rw [Bool.not_eq_true] at hb
      refine .inr (Ev_succ fun k => ?_)
      simp only [impl_within.l0]
      rw [if_pos (by omega), if_pos (by omega), if_pos (by omega), rd_nat, hw, in_s, hb]
      rfl
  · refine Ev_succ fun k => ?_
    simp only [impl_within.l0]
    rw [if_neg (by omega)]
    simp [sm]
theorem small_ev (l : List Int) (h : l.length ≤ 4096) : Ev (fun k => spec_l8Small.f k l 40) (sm 1099511627776 l) := by
  simp only [spec_l8Small.f]
  refine evNeg (by omega) ?_
  have hs : shl .i64 1 40 = 1099511627776 := by decide +kernel
  have hw : wrap64 (-1099511627776) = -1099511627776 := by decide +kernel
  have := scan (fun k i => spec_l8Small.l0 k l 40 i) l.length (fun j => sm 1099511627776 (l.drop j)) ?_ ?_ 0 (by omega)
  · simpa using this
  · intro j hj
    have e : sm 1099511627776 (l.drop j) = (inS (l.getD j 0) (-1099511627776) 1099511627776 && sm 1099511627776 (l.drop (j + 1))) := all_drop l _ 0 j hj
    simp only [e]
    by_cases c1 : l.getD j 0 < -1099511627776
    · refine .inr (Ev_succ fun k => ?_)
      simp only [spec_l8Small.l0]
      rw [if_pos (by omega), if_pos (by omega), if_pos (by omega), rd_nat, hs, hw, if_pos c1]
      rw [show inS (l.getD j 0) (-1099511627776) 1099511627776 = false from by unfold inS; rw [decide_eq_false (by omega)]; rfl]
      rfl
    · by_cases c2 : l.getD j 0 > 1099511627776
      · refine .inr (Ev_succ fun k => ?_)
        simp only [spec_l8Small.l0]
        rw [if_pos (by omega), if_pos (by omega), if_pos (by omega), rd_nat, hs, hw, if_neg c1, if_pos c2]
        rw [show inS (l.getD j 0) (-1099511627776) 1099511627776 = false from by unfold inS; rw [decide_eq_false (p := l.getD j 0 ≤ 1099511627776) (by omega), Bool.and_false]]
        rfl
      · refine .inl ⟨by rw [show inS (l.getD j 0) (-1099511627776) 1099511627776 = true from (inS_iff _ _ _).2 ⟨by omega, by omega⟩, Bool.true_and], 0, fun k _ => ?_⟩
        simp only [spec_l8Small.l0]
        rw [if_pos (by omega), if_pos (by omega), if_pos (by omega), rd_nat, hs, hw, if_neg c1, if_neg c2, up1 (by omega)]
  · refine Ev_succ fun k => ?_
    simp only [spec_l8Small.l0]
    rw [if_neg (by omega)]
    simp [sm]
theorem sm_get {M : Int} {l : List Int} (h : sm M l = true) (hM : 0 ≤ M) (j : Nat) : -M ≤ rd l (j : Int) ∧ rd l (j : Int) ≤ M := by
  by_cases c : j < l.length
  · have h' := List.all_eq_true.1 h (l.getD j 0) (by rw [List.getD_eq_getElem?_getD, List.getElem?_eq_getElem c]; exact List.getElem_mem c)
    rw [rd_nat]
    exact (inS_iff _ _ _).1 h'
  · rw [rd_out _ _ (by omega)]; omega
theorem sm_of {M : Int} {l : List Int} (h : ∀ j : Nat, -M ≤ rd l (j : Int) ∧ rd l (j : Int) ≤ M) : sm M l = true := by
  refine List.all_eq_true.2 fun x hx => ?_
  obtain ⟨i, hi, rfl⟩ := List.getElem_of_mem hx
  have := h i
  rw [rd_nat, List.getD_eq_getElem?_getD, List.getElem?_eq_getElem hi] at this
  exact (inS_iff _ _ _).2 this
theorem bd_of {l : List Int} (hl : l.length ≤ 4096) (h : sm 1099511627776 l = true) : Bd l l.length :=
  ⟨hl, Nat.le_refl _, fun j => by have := sm_get h (by omega) j; omega, fun j _ => sm_get h (by omega) j⟩

/-! the way back -/
def sz : Nat → Nat → List Int → List Int
  | 0, _, o => o
  | t + 1, m, o => if 1 < m then sz t ((m + 1) / 2) (o ++ [(m : Int)]) else o
theorem sz_pre : ∀ t m o, ∃ r, sz t m o = o ++ r ∧ (sz t m o).length ≤ o.length + t := by
  intro t
  induction t with
  | zero => intro m o; exact ⟨[], by simp [sz], by simp [sz]⟩
  | succ t ih =>
    intro m o
    unfold sz
    by_cases c : 1 < m
    · rw [if_pos c]
      obtain ⟨r, h1, h2⟩ := ih ((m + 1) / 2) (o ++ [(m : Int)])
      refine ⟨(m : Int) :: r, by rw [h1]; simp, ?_⟩
      simp at h2
      omega
    · rw [if_neg c]
      exact ⟨[], by simp, by omega⟩
theorem sz_impl (x : List Int) (X : List Int × Bool) : ∀ t m o, t ≤ 12 → m ≤ 4096 → o.length + t ≤ 12 → Ev (fun k => impl_Unwave.j2 k x (sz t m o)) X → Ev (fun k => impl_Unwave.l0 k (t : Int) x o (m : Int)) X := by
  intro t
  induction t with
  | zero =>
    intro m o ht hm ho h
    exact Ev.step (fun k => impl_Unwave.l0.eq_2 _ _ _ _ k) (evNeg (by omega) h)
  | succ t ih =>
    intro m o ht hm ho h
    refine Ev.step (fun k => impl_Unwave.l0.eq_2 _ _ _ _ k) (evPos (by omega) ?_)
    unfold sz at h
    by_cases c : 1 < m
    · rw [if_pos c] at h
      refine evPos (by omega) (evPos (by omega) ?_)
      rw [half_up m hm, show wrap64 (((t + 1 : Nat) : Int) - 1) = (t : Int) by rw [w64 (by omega) (by omega)]; omega]
      exact ih _ _ (by omega) (by omega) (by simp; omega) h
    · rw [if_neg c] at h
      exact evNeg (by omega) h
def rf (x : List Int) (j : Nat) : Int := rd x (j : Int)
theorem back_row (S x : List Int) (m : Nat) (z : Int) (h : Bd x m) (X : List Int × Bool) : ∀ t i, i + t = m / 2 → Ev (fun k => impl_Unwave.l2 k (WV x m) S z (m : Int) (tab (2 * (m / 2)) (rf x)) ((m / 2 : Nat) : Int)) X → Ev (fun k => impl_Unwave.l2 k (WV x m) S z (m : Int) (tab (2 * i) (rf x)) (i : Int)) X := by
  intro t
  have hn := h.len
  have hm := h.le
  have hl := WV_length x m
  induction t with
  | zero =>
    intro i hi h
    rw [show i = m / 2 by omega]
    exact h
  | succ t ih =>
    intro i hi hE
    have IH := ih (i + 1) (by omega) hE
    have l1 := tab_length (2 * i) (rf x)
    have b0 := h.hd (2 * i) (by omega)
    have b1 := h.hd (2 * i + 1) (by omega)
    have bd := h.df (i := i) (by omega)
    have e1 : wrap64 (Mn x i - Df x i / 2) = rf x (2 * i) := by
      unfold rf Mn
      rw [w64 (by omega) (by omega)]
      omega
    have e2 : wrap64 (rf x (2 * i) + Df x i) = rf x (2 * i + 1) := by
      unfold rf Df
      rw [w64 (by omega) (by omega)]
      omega
    refine Ev.step (fun k => impl_Unwave.l2.eq_2 _ _ _ _ _ _ k) ?_
    rw [half_down m (by omega), half_up m (by omega)]
    refine evPos (by omega) ?_
    rw [wadd (a := (m + 1) / 2) (b := i) (by omega) (by omega)]
    refine evPos (by omega) (evPos (by omega) (evPos (by omega) (evPos (by omega) ?_)))
    simp only [impl_half.f, Option.bind_some]
    rw [wv_mn x m i hm (by omega), wv_df x m i hm (by omega), e1, e2, up1 (by omega)]
    refine evPos (by rw [l1]; simp; omega) ?_
    rw [tab_two]
    exact IH
theorem back_ev (X : List Int × Bool) (S : List Int) (hS : S.length ≤ 12) : ∀ t x m o, S = sz t m o → Bd x m → Ev (fun k => impl_Unwave.l1 k x S ((o.length : Int) - 1)) X → Ev (fun k => impl_Unwave.l1 k (WW t x m) S ((S.length : Int) - 1)) X := by
  intro t
  induction t with
  | zero =>
    intro x m o e h hE
    have e' : S = o := e
    rw [← e'] at hE
    exact hE
  | succ t ih =>
    intro x m o e h hE
    unfold sz at e
    unfold WW
    by_cases c : 1 < m
    rotate_left
    · rw [if_neg c] at e ⊢
      rw [← e] at hE
      exact hE
    rw [if_pos c] at e ⊢
    refine ih (WV x m) ((m + 1) / 2) (o ++ [(m : Int)]) e h.step ?_
    have hn := h.len
    have hm := h.le
    have hl := WV_length x m
    obtain ⟨r, hr, hr2⟩ := sz_pre t ((m + 1) / 2) (o ++ [(m : Int)])
    have hS1 : o.length < S.length := by rw [e, hr]; simp
    have hSm : rd S (o.length : Int) = (m : Int) := by
      rw [e, hr, rd_nat, List.getD_eq_getElem?_getD, List.getElem?_append_left (by simp), List.getElem?_append_right (Nat.le_refl _), Nat.sub_self]
      rfl
    have e0 : (((o ++ [(m : Int)]).length : Nat) : Int) - 1 = (o.length : Int) := by rw [List.length_append]; simp
    rw [e0]
    refine Ev.step (fun k => impl_Unwave.l1.eq_2 _ _ _ k) (evPos (by omega) (evPos (by omega) (evPos (by omega) ?_)))
    rw [hSm]
    refine back_row S x m _ h _ (m / 2) 0 (by omega) ?_
    have l1 := tab_length (2 * (m / 2)) (rf x)
    have l2 := tab_length m (rf x)
    have fin : Ev (fun k => (impl_within.f k (tab m (rf x)) 1152921504606846976).bind fun t => if t = true then impl_Unwave.l1 k ((tab m (rf x)).take (min (tab m (rf x)).length (WV x m).length) ++ (WV x m).drop (min (tab m (rf x)).length (WV x m).length)) S (wrap64 ((o.length : Int) - 1)) else some (([] : List Int), false)) X := by
      have hw := within_ev (tab m (rf x)) 1152921504606846976 (by omega) (by omega) (by omega)
      rw [sm_of (fun j => by
        by_cases cj : j < m
        · rw [rd_tab _ _ _ cj]; have := h.all j; unfold rf; omega
        · rw [rd_out _ _ (by omega)]; omega)] at hw
      refine Ev.bind hw (evPos rfl ?_)
      rw [cut_ _ _ m l2 (by omega), w64 (x := (o.length : Int) - 1) (by omega) (by omega)]
      have ex : tab m (rf x) ++ (WV x m).drop m = x := by
        rw [drop_tab, tab_app, hl]
        refine Eq.trans (tab_congr (by omega) fun j hj => ?_) (self_tab x)
        by_cases cj : j < m
        · rw [if_pos cj]; rfl
        · rw [if_neg cj, show m + (j - m) = j by omega]
          unfold WV
          rw [rd_tab _ _ _ (by omega)]
          unfold wv
          rw [if_neg (by omega), if_neg cj]
      rw [ex]
      exact hE
    refine Ev.step (fun k => impl_Unwave.l2.eq_2 _ _ _ _ _ _ k) ?_
    rw [half_down m (by omega)]
    refine evNeg (by omega) ?_
    rw [odd_]
    by_cases ho : m % 2 = 1
    · refine evPos (by omega) (evPos (by omega) (evPos (by omega) (evPos (by omega) ?_)))
      rw [wv_last x m hm ho, show tab (2 * (m / 2)) (rf x) ++ [rd x ((2 * (m / 2) : Nat) : Int)] = tab m (rf x) from by rw [show m = 2 * (m / 2) + 1 by omega, tab_succ]; rw [show 2 * ((2 * (m / 2) + 1) / 2) = 2 * (m / 2) by omega]; rfl]
      exact Ev.bind (Ev.now _) fin
    · refine evNeg (by omega) ?_
      rw [show 2 * (m / 2) = m by omega]
      exact fin

/-! the functions -/
theorem waves (l : List Int) (a : Int) (hl : l.length ≤ 1048576) : (∃ t : Nat, a = (t : Int) ∧ t ≤ 12 ∧ l.length ≤ 4096 ∧ sm 1099511627776 l = true ∧ 1 ≤ t) ∨ (Ev (fun k => impl_Wave.f k l a) ([], false) ∧ Ev (fun k => spec_Wave.f k l a) ([], false)) := by
  have noS : Ev (fun k => spec_Wave.j0 k l a true) ([], false) := Ev.step (fun k => spec_Wave.j0.eq_2 _ _ _ k) (evPos rfl (Ev.now _))
  have noI : Ev (fun k => impl_Wave.j0 k l a true) ([], false) := Ev.step (fun k => impl_Wave.j0.eq_2 _ _ _ k) (evPos rfl (Ev.now _))
  simp only [spec_Wave.f, impl_Wave.f, l2In_s, in_s, Option.bind_some]
  by_cases h4 : l.length ≤ 4096
  rotate_left
  · have s1 : Ev (fun k => spec_l8Small.f k l 40) false := by simp only [spec_l8Small.f]; exact evPos (by omega) (Ev.now _)
    have s2 : Ev (fun k => impl_within.f k l 1099511627776) false := by simp only [impl_within.f]; exact evPos (by omega) (Ev.now _)
    exact .inr ⟨Ev.bind s2 (evNeg (by decide) noI), Ev.bind s1 (evNeg (by decide) noS)⟩
  have s1 := small_ev l h4
  have s2 := within_ev l 1099511627776 h4 (by omega) (by omega)
  cases hs : sm 1099511627776 l with
  | false =>
    rw [hs] at s1 s2
    exact .inr ⟨Ev.bind s2 (evNeg (by decide) noI), Ev.bind s1 (evNeg (by decide) noS)⟩
  | true =>
    rw [hs] at s1 s2
    cases hi : inS a 1 12 with
    | false => exact .inr ⟨Ev.bind s2 (evPos rfl noI), Ev.bind s1 (evPos rfl noS)⟩
    | true =>
      rw [inS_iff] at hi
      obtain ⟨t, rfl⟩ := Int.eq_ofNat_of_zero_le (show 0 ≤ a by omega)
      exact .inl ⟨t, rfl, by omega, h4, rfl, by omega⟩
theorem wave_i (l : List Int) (t : Nat) (h1 : 1 ≤ t) (h2 : t ≤ 12) (h4 : l.length ≤ 4096) (hs : sm 1099511627776 l = true) : Ev (fun k => impl_Wave.f k l (t : Int)) (WW t l l.length, true) := by
  simp only [impl_Wave.f, in_s, Option.bind_some]
  have s2 := within_ev l 1099511627776 h4 (by omega) (by omega)
  rw [hs] at s2
  refine Ev.bind s2 (evPos rfl ?_)
  rw [(inS_iff (t : Int) 1 12).2 ⟨by omega, by omega⟩]
  refine Ev.step (fun k => impl_Wave.j0.eq_2 _ _ _ k) (evNeg (by decide) (Ev.bind (Ev.now _) (evPos (by simp; omega) (Ev.bind (Ev.now _) ?_))))
  exact wave_impl t l l.length h2 (bd_of h4 hs)
theorem wave_s (l : List Int) (t : Nat) (h1 : 1 ≤ t) (h2 : t ≤ 12) (h4 : l.length ≤ 4096) (hs : sm 1099511627776 l = true) : Ev (fun k => spec_Wave.f k l (t : Int)) (WW t l l.length, true) := by
  simp only [spec_Wave.f, l2In_s, Option.bind_some]
  have s1 := small_ev l h4
  rw [hs] at s1
  refine Ev.bind s1 (evPos rfl ?_)
  rw [(inS_iff (t : Int) 1 12).2 ⟨by omega, by omega⟩]
  refine Ev.step (fun k => spec_Wave.j0.eq_2 _ _ _ k) (evNeg (by decide) (Ev.bind (Ev.now _) (evPos (by simp; omega) (Ev.bind (Ev.now _) ?_))))
  exact wave_spec t h2 t 0 l l.length (by omega) (bd_of h4 hs)
theorem unwave_i (l : List Int) (t : Nat) (h1 : 1 ≤ t) (h2 : t ≤ 12) (h4 : l.length ≤ 4096) (hs : sm 1099511627776 l = true) : Ev (fun k => impl_Unwave.f k (WW t l l.length) (t : Int)) (l, true) := by
  simp only [impl_Unwave.f, in_s, Option.bind_some]
  obtain ⟨hw, hb⟩ := WW_bd t l l.length (bd_of h4 hs)
  have s2 := within_ev (WW t l l.length) 1152921504606846976 (by omega) (by omega) (by omega)
  rw [sm_of (fun j => by have := hb j; omega)] at s2
  refine Ev.bind s2 (evPos rfl ?_)
  rw [(inS_iff (t : Int) 1 12).2 ⟨by omega, by omega⟩]
  have e0 : ([] : List Int).length = 0 := rfl
  refine Ev.step (fun k => impl_Unwave.j0.eq_2 _ _ _ k) (evNeg (by decide) (Ev.bind (Ev.now _) (evPos (by omega) (Ev.bind (Ev.now _) ?_))))
  rw [List.nil_append, hw]
  refine sz_impl _ _ t l.length [] h2 h4 (by simpa using h2) ?_
  obtain ⟨r, _, hr⟩ := sz_pre t l.length []
  rw [e0, Nat.zero_add] at hr
  refine Ev.step (fun k => impl_Unwave.j2.eq_2 _ _ k) ?_
  rw [w64 (by omega) (by omega)]
  refine back_ev _ _ (by omega) t l l.length [] rfl (bd_of h4 hs) ?_
  exact Ev.step (fun k => impl_Unwave.l1.eq_2 _ _ _ k) (evNeg (by rw [e0]; decide) (Ev.now _))

/-! equal numbers -/
structure Flat (c : Int) (x : List Int) (m : Nat) : Prop where
  lo : ∀ j : Nat, j < m → rd x (j : Int) = c
  hi : ∀ j : Nat, m ≤ j → rd x (j : Int) = 0
theorem Flat.step {c : Int} {x : List Int} {m : Nat} (h : Flat c x m) (hm : m ≤ x.length) : Flat c (WV x m) ((m + 1) / 2) := by
  refine ⟨fun j hj => ?_, fun j hj => ?_⟩
  · unfold WV
    rw [rd_tab _ _ _ (by omega)]
    unfold wv Mh
    rw [if_pos hj]
    by_cases c1 : 2 * j + 1 < m
    · rw [if_pos c1]
      unfold Mn Df
      rw [h.lo _ (by omega), h.lo _ c1]
      omega
    · rw [if_neg c1]; exact h.lo _ (by omega)
  · by_cases c1 : j < x.length
    · unfold WV
      rw [rd_tab _ _ _ c1]
      unfold wv
      rw [if_neg (by omega)]
      by_cases c2 : j < m
      · rw [if_pos c2]
        unfold Df
        rw [h.lo _ (by omega), h.lo _ (by omega)]
        omega
      · rw [if_neg c2]; exact h.hi _ (by omega)
    · exact rd_out _ _ (by rw [WV_length]; omega)
theorem WW_flat (c : Int) : ∀ t x m, 1 ≤ m → m ≤ 2 ^ t → m ≤ x.length → Flat c x m → Flat c (WW t x m) 1 := by
  intro t
  induction t with
  | zero =>
    intro x m h1 h2 _ h
    rw [show m = 1 by omega] at h
    exact h
  | succ t ih =>
    intro x m h1 h2 hm h
    unfold WW
    by_cases c : 1 < m
    · rw [if_pos c]
      exact ih _ _ (by omega) (by rw [Nat.pow_succ] at h2; omega) (by rw [WV_length]; omega) (h.step hm)
    · rw [if_neg c]
      rw [show m = 1 by omega] at h
      exact h
theorem same_ev (a : List Int) (h : a.length ≤ 1048576) : Ev (fun k => laws_sameInts.f k a a) true := by
  simp only [laws_sameInts.f]
  refine evPos (by trivial) ?_
  refine count (fun k i (_ : Unit) => laws_sameInts.l0 k a a i) a.length (fun _ => ()) true ?_ ?_ 0 (by omega)
  · intro j hj
    refine ⟨0, fun k _ => ?_⟩
    simp only [laws_sameInts.l0]
    rw [if_pos (by omega), if_pos (by omega), if_pos (by omega), if_pos trivial, up1 (by omega)]
  · refine Ev_succ (fun k => ?_)
    simp only [laws_sameInts.l0]
    rw [if_neg (by omega)]

/-! the draws -/
theorem whole_ok {l : List Int} (h : Src l) {p : Int} (hp : At l p) : ∃ xs q, Ev (fun k => spec_l1Rd_whole.f k l p 60) (xs, q) ∧ xs.length ≤ 60 ∧ At l q := by
  obtain ⟨n, q, e, n0, n1, hq⟩ := size_ok h hp 3 60 (by omega) (by omega) (by omega)
  obtain ⟨v, q2, e2, v0, v1, hq2⟩ := below_ok h hq 600 (by omega)
  obtain ⟨n, rfl⟩ := Int.eq_ofNat_of_zero_le (show 0 ≤ n by omega)
  have main : ∀ t i (xs : List Int) (y p : Int), i + t = n → xs.length = i → At l p → ∃ xs' q, Ev (fun k => spec_l1Rd_whole.l0 k (n : Int) xs y (i : Int) l p) (xs', q) ∧ xs'.length = n ∧ At l q := by
    intro t
    induction t with
    | zero =>
      intro i xs y p hi hx hp
      exact ⟨xs, p, Ev.step (fun k => spec_l1Rd_whole.l0.eq_2 _ _ _ _ _ _ k) (evNeg (by omega) (Ev.now _)), by omega, hp⟩
    | succ t ih =>
      intro i xs y p hi hx hp
      obtain ⟨v, q, e, v0, v1, hq⟩ := below_ok h hp 30 (by omega)
      obtain ⟨b, q2, e2, hq2⟩ := once_ok h hq 25 (by omega)
      cases b with
      | true =>
        obtain ⟨u, q3, e3, u0, u1, hq3⟩ := below_ok h hq2 3 (by omega)
        obtain ⟨xs', q', E, hl, hq'⟩ := ih (i + 1) (xs ++ [rd [1099511627776, -1099511627776, 0] u]) (rd [1099511627776, -1099511627776, 0] u) q3 (by omega) (by simp; omega) hq3
        refine ⟨xs', q', Ev.step (fun k => spec_l1Rd_whole.l0.eq_2 _ _ _ _ _ _ k) (evPos (by omega) ?_), hl, hq'⟩
        rw [e]
        refine Ev.bind (Ev.now _) ?_
        rw [e2]
        refine Ev.bind (Ev.now _) (evPos rfl (Ev.bind (Ev.now _) ?_))
        rw [e3]
        refine Ev.bind (Ev.now _) (evPos u0 (evPos (by simpa using u1) (evPos (by omega) ?_)))
        rw [up1 (by omega)]
        exact E
      | false =>
        obtain ⟨xs', q', E, hl, hq'⟩ := ih (i + 1) (xs ++ [wrap64 (wrap64 (y + v) - 15)]) (wrap64 (wrap64 (y + v) - 15)) q2 (by omega) (by simp; omega) hq2
        refine ⟨xs', q', Ev.step (fun k => spec_l1Rd_whole.l0.eq_2 _ _ _ _ _ _ k) (evPos (by omega) ?_), hl, hq'⟩
        rw [e]
        refine Ev.bind (Ev.now _) ?_
        rw [e2]
        refine Ev.bind (Ev.now _) (evNeg (by intro h_; cases h_) (evPos (by omega) ?_))
        rw [up1 (by omega)]
        exact E
  obtain ⟨xs, q3, E, hl, hq3⟩ := main n 0 [] (wrap64 (v - 300)) q2 (by omega) rfl hq2
  refine ⟨xs, q3, ?_, by omega, hq3⟩
  simp only [spec_l1Rd_whole.f]
  rw [e]
  refine Ev.bind (Ev.now _) ?_
  rw [e2]
  exact Ev.bind (Ev.now _) E
theorem draw_ok {l : List Int} (h : Src l) : ∃ xs a, Ev (fun k => spec_DrawWave.f k l) (xs, a) ∧ xs.length ≤ 100 := by
  have h0 : At l 0 := ⟨by omega, by omega⟩
  obtain ⟨xs, q, E, hl, hq⟩ := whole_ok h h0
  obtain ⟨v, q2, e2, v0, v1, hq2⟩ := below_ok h hq 6 (by omega)
  obtain ⟨c, q3, e3, c0, c1, hq3⟩ := below_ok h hq2 20 (by omega)
  simp only [spec_DrawWave.f]
  by_cases k0 : c = 0
  · obtain ⟨u, q4, e4, u0, u1, hq4⟩ := below_ok h hq3 3 (by omega)
    refine ⟨xs, rd [0, 12, 13] u, Ev.bind (a := (l, 0)) (Ev.now _) (Ev.bind E ?_), by omega⟩
    rw [e2]
    refine Ev.bind (Ev.now _) ?_
    rw [e3]
    refine Ev.bind (Ev.now _) (evPos k0 ?_)
    rw [e4]
    exact Ev.bind (Ev.now _) (evPos u0 (evPos (by simpa using u1) (Ev.now _)))
  by_cases k1 : c = 1
  · obtain ⟨u, q4, e4, u0, u1, hq4⟩ := below_ok h hq3 2 (by omega)
    refine ⟨xs ++ [rd [1099511627777, 1099511627776] u], wrap64 (1 + v), Ev.bind (a := (l, 0)) (Ev.now _) (Ev.bind E ?_), by simp; omega⟩
    rw [e2]
    refine Ev.bind (Ev.now _) ?_
    rw [e3]
    refine Ev.bind (Ev.now _) (evNeg k0 (evPos k1 ?_))
    rw [e4]
    exact Ev.bind (Ev.now _) (evPos u0 (evPos (by simpa using u1) (evPos (by show xs.length < _; omega) (Ev.now _))))
  by_cases k2 : c = 2
  · refine ⟨xs.take (0 : Int).toNat, wrap64 (1 + v), Ev.bind (a := (l, 0)) (Ev.now _) (Ev.bind E ?_), by simp⟩
    rw [e2]
    refine Ev.bind (Ev.now _) ?_
    rw [e3]
    exact Ev.bind (Ev.now _) (evNeg k0 (evNeg k1 (evPos k2 (evPos (by omega) (Ev.now _)))))
  · refine ⟨xs, wrap64 (1 + v), Ev.bind (a := (l, 0)) (Ev.now _) (Ev.bind E ?_), by omega⟩
    rw [e2]
    refine Ev.bind (Ev.now _) ?_
    rw [e3]
    exact Ev.bind (Ev.now _) (evNeg k0 (evNeg k1 (evNeg k2 (Ev.now _))))

theorem zeros_ev (v : List Int) (h4 : v.length ≤ 4096) (hz : ∀ j : Nat, 1 ≤ j → rd v (j : Int) = 0) : ∀ t j, 1 ≤ j → j + t = v.length → Ev (fun k => laws_FnWavelets.l1 k v (j : Int)) true := by
  intro t
  induction t with
  | zero =>
    intro j hj hl
    refine Ev.step (fun k => laws_FnWavelets.l1.eq_2 _ _ k) (evNeg (by omega) ?_)
    exact Ev.step (fun k => laws_FnWavelets.j4.eq_2 _ _ _ k) (evNeg (by decide) (Ev.now _))
  | succ t ih =>
    intro j hj hl
    refine Ev.step (fun k => laws_FnWavelets.l1.eq_2 _ _ k) (evPos (by omega) ?_)
    rw [decide_eq_true (by omega)]
    refine Ev.step (fun k => laws_FnWavelets.j4.eq_2 _ _ _ k) (evPos rfl (evPos (by omega) (evPos (by omega) (evPos (hz j hj) ?_))))
    rw [up1 (by omega)]
    exact ih (j + 1) (by omega) (by omega)
theorem flat_ev (l : List Int) (h1 : 1 ≤ l.length) (h4 : l.length ≤ 4096) (hs : sm 1099511627776 l = true) : Ev (fun k => laws_FnWavelets.l0 k l [] 0) true := by
  have main : ∀ t i, i + t = l.length → Ev (fun k => laws_FnWavelets.l0 k l (tab l.length (fun _ => rd l 0)) (l.length : Int)) true → Ev (fun k => laws_FnWavelets.l0 k l (tab i (fun _ => rd l 0)) (i : Int)) true := by
    intro t
    induction t with
    | zero =>
      intro i hi h
      rw [show i = l.length by omega]
      exact h
    | succ t ih =>
      intro i hi h
      have l1 := tab_length i (fun _ => rd l 0)
      refine Ev.step (fun k => laws_FnWavelets.l0.eq_2 _ _ _ k) (evPos (by omega) (evPos (by omega) (evPos (by omega) ?_)))
      rw [up1 (by omega), ← tab_succ i (fun _ => rd l 0)]
      exact ih (i + 1) (by omega) h
  refine main l.length 0 (by omega) ?_
  have hl := tab_length l.length (fun _ => rd l 0)
  obtain ⟨F, hF⟩ : ∃ F, F = tab l.length (fun _ => rd l 0) := ⟨_, rfl⟩
  rw [← hF] at hl ⊢
  have hc := sm_get hs (by omega) 0
  have hsm : sm 1099511627776 F = true := sm_of (fun j => by
    by_cases c : j < l.length
    · rw [hF, rd_tab _ _ _ c]; exact hc
    · rw [rd_out _ _ (by omega)]; omega)
  have hfl : Flat (rd l 0) F l.length := ⟨fun j hj => by rw [hF, rd_tab _ _ _ hj], fun j hj => rd_out _ _ (by omega)⟩
  have hw := wave_i F 12 (by omega) (by omega) (by omega) hsm
  rw [hl] at hw
  have hW := WW_flat (rd l 0) 12 F l.length h1 (by omega) (by omega) hfl
  have hb := (WW_bd 12 F l.length (by have := bd_of (l := F) (by omega) hsm; rw [hl] at this; exact this)).1
  refine Ev.step (fun k => laws_FnWavelets.l0.eq_2 _ _ _ k) (evNeg (by omega) (Ev.bind hw (evPos rfl (evPos (by show ((WW 12 F l.length).length : Int) = _; omega) (evPos (by show 0 < ((WW 12 F l.length).length : Int); omega) (evPos (by omega) ?_))))))
  have e0 : rd (WW 12 F l.length) 0 = rd l 0 := hW.lo 0 (by omega)
  show Ev (fun k => laws_FnWavelets.j2 k (WW 12 F l.length) (rd (WW 12 F l.length) 0 != rd l 0)) true
  rw [e0, bne_self_eq_false]
  refine Ev.step (fun k => laws_FnWavelets.j2.eq_2 _ _ k) (evNeg (by decide) ?_)
  exact zeros_ev _ (by omega) (fun j hj => hW.hi j hj) (l.length - 1) 1 (by omega) (by omega)

theorem FnWavelets : laws_FnWavelets.Pure := by
  intro l _ _ hb
  refine Ev.rounds ?_
  simp only [laws_FnWavelets.f, laws_big.f, Option.bind_some]
  by_cases big : decide ((l.length : Int) > 1048576) = true
  · exact evPos big (Ev.now _)
  refine evNeg big ?_
  have h : Src l := ⟨by have := big; simp at this; omega, fun x hx => by have := hb x hx; simp [Lit.wf] at this; exact this⟩
  obtain ⟨xs, a, e, hl⟩ := draw_ok h
  refine Ev.bind e ?_
  rcases waves xs a (by omega) with ⟨t, rfl, t2, h4, hs, t1⟩ | ⟨hi, hs⟩
  · refine Ev.bind (wave_s xs t t1 t2 h4 hs) (Ev.bind (wave_i xs t t1 t2 h4 hs) (evNeg (by show ¬ ((true != true) = true); decide) (evPos rfl (Ev.bind (unwave_i xs t t1 t2 h4 hs) (evPos rfl (Ev.bind (same_ev xs (by omega)) (evPos rfl ?_)))))))
    refine Ev.step (fun k => laws_FnWavelets.j0.eq_2 _ _ _ _ k) ?_
    by_cases hx : xs.length = 0
    · refine evPos (by rw [hx]; rfl) (evPos rfl (Ev.bind (same_ev xs (by omega)) (Ev.now _)))
    · refine evNeg (by simpa using fun e => hx (by rw [e]; rfl)) ?_
      exact flat_ev xs (by omega) h4 hs
  · exact Ev.bind hs (Ev.bind hi (evNeg (by decide) (evNeg (by decide) (Ev.now _))))
end Go.Proofs.Yteobnbichpadjab.Pure
