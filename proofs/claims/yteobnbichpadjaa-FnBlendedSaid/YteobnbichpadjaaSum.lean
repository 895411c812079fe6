/- Sums over lists of whole numbers; no condition. -/
import Derived.Test.YteobnbichpadjaaGen
set_option linter.unusedVariables false
set_option linter.unusedSimpArgs false
namespace Go.Proofs.Yteobnbichpadjaa.Sum

def tot : List Int → Int
  | [] => 0
  | x :: l => x + tot l

theorem tot_append (a b : List Int) : tot (a ++ b) = tot a + tot b := by
  induction a with
  | nil => simp [tot]
  | cons x a ih => simp only [List.cons_append, tot, ih]; omega
theorem tot_map_rev {α} (f : α → Int) (l : List α) : tot (l.reverse.map f) = tot (l.map f) := by
  induction l with
  | nil => rfl
  | cons x l ih => simp only [List.reverse_cons, List.map_append, List.map_cons, List.map_nil, tot_append, tot, ih]; omega
theorem tot_take_succ {α} (f : α → Int) (l : List α) (d : α) (j : Nat) (hj : j < l.length) : tot ((l.take (j + 1)).map f) = tot ((l.take j).map f) + f (l.getD j d) := by
  rw [List.take_succ_eq_append_getElem hj, List.map_append, tot_append, List.getD_eq_getElem?_getD, List.getElem?_eq_getElem hj]
  simp [tot]
theorem tot_bound {α} (f : α → Int) (lo hi : Int) (l : List α) (h : ∀ a ∈ l, lo ≤ f a ∧ f a ≤ hi) : l.length * lo ≤ tot (l.map f) ∧ tot (l.map f) ≤ l.length * hi := by
  induction l with
  | nil => simp [tot]
  | cons x l ih =>
    have h1 := h x (List.mem_cons_self ..)
    have h2 := ih fun a ha => h a (List.mem_cons_of_mem _ ha)
    have e1 : ((x :: l).length : Int) * lo = l.length * lo + lo := by rw [List.length_cons, Int.natCast_succ, Int.add_mul, Int.one_mul]
    have e2 : ((x :: l).length : Int) * hi = l.length * hi + hi := by rw [List.length_cons, Int.natCast_succ, Int.add_mul, Int.one_mul]
    rw [e1, e2]
    simp only [List.map_cons, tot]
    omega
theorem tot_nonneg {α} (f : α → Int) (l : List α) (h : ∀ a ∈ l, 0 ≤ f a) : 0 ≤ tot (l.map f) := by
  induction l with
  | nil => simp [tot]
  | cons x l ih =>
    have h1 := h x (List.mem_cons_self ..)
    have h2 := ih fun a ha => h a (List.mem_cons_of_mem _ ha)
    simp only [List.map_cons, tot]
    omega
theorem tot_zero {α} (f : α → Int) (l : List α) (h : ∀ a ∈ l, f a = 0) : tot (l.map f) = 0 := by
  induction l with
  | nil => rfl
  | cons x l ih =>
    simp only [List.map_cons, tot, h x (List.mem_cons_self ..), ih fun a ha => h a (List.mem_cons_of_mem _ ha)]
    rfl
theorem tot_le {α} (f g : α → Int) (l : List α) (h : ∀ a ∈ l, f a ≤ g a) : tot (l.map f) ≤ tot (l.map g) := by
  induction l with
  | nil => simp [tot]
  | cons x l ih =>
    have h1 := h x (List.mem_cons_self ..)
    have h2 := ih fun a ha => h a (List.mem_cons_of_mem _ ha)
    simp only [List.map_cons, tot]
    omega
theorem zero_of_tot {α} (f : α → Int) (l : List α) (h : ∀ a ∈ l, 0 ≤ f a) (h0 : tot (l.map f) ≤ 0) : ∀ a ∈ l, f a = 0 := by
  induction l with
  | nil => intro a ha; cases ha
  | cons x l ih =>
    have h1 := h x (List.mem_cons_self ..)
    have h2 := tot_nonneg f l fun a ha => h a (List.mem_cons_of_mem _ ha)
    simp only [List.map_cons, tot] at h0
    intro a ha
    rcases List.mem_cons.mp ha with rfl | ha
    · omega
    · exact ih (fun a ha => h a (List.mem_cons_of_mem _ ha)) (by omega) a ha

end Go.Proofs.Yteobnbichpadjaa.Sum
