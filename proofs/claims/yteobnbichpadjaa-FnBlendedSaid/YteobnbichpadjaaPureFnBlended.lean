/- The plain statement of the law FnBlended: what measurements tell together lies between them, hangs not on their order, and is their mean where all variances are alike; no condition. -/
import Derived.Test.YteobnbichpadjaaSum
import Derived.Test.YteobnbichpadjaaDraw
import Derived.Test.YteobnbichpadjaaInAll
import Derived.Test.YteobnbichpadjaaQx1
import Derived.Test.YteobnbichpadjaaQx28
import Derived.Test.YteobnbichpadjaaQx29
import Derived.Test.YteobnbichpadjaaQx30
import Derived.Test.YteobnbichpadjaaQx31
import Derived.Test.YteobnbichpadjaaQx32
import Derived.Test.YteobnbichpadjaaQx33
set_option linter.unusedVariables false
set_option linter.unusedSimpArgs false
namespace Go.Proofs.Yteobnbichpadjaa.Pure
open Go.RowKit Go.Proofs.Yteobnbichpadjaa.Q Go.Proofs.Yteobnbichpadjaa.Gen Go.Proofs.Yteobnbichpadjaa.Sum Go.Proofs.Yteobnbichpadjaa.Draw Go.Proofs.YteobnbichpadjaaW.PrintWords Go.Proofs.YteobnbichpadjaaW.PrintMore

/-! products -/
def prd : List Int → Int
  | [] => 1
  | x :: l => x * prd l
theorem prd_append (a b : List Int) : prd (a ++ b) = prd a * prd b := by
  induction a with
  | nil => simp [prd]
  | cons x a ih => simp only [List.cons_append, prd, ih, Int.mul_assoc]
theorem prd_rev (l : List Int) : prd l.reverse = prd l := by
  induction l with
  | nil => rfl
  | cons x l ih => simp only [List.reverse_cons, prd_append, prd, ih, Int.mul_one, Int.mul_comm]
theorem prd_take_succ (l : List Int) (j : Nat) (hj : j < l.length) : prd (l.take (j + 1)) = prd (l.take j) * l.getD j 0 := by
  rw [List.take_succ_eq_append_getElem hj, prd_append, List.getD_eq_getElem?_getD, List.getElem?_eq_getElem hj]
  simp [prd]
def hun : Nat → Int
  | 0 => 1
  | n + 1 => hun n * 100
theorem hun_pos (n : Nat) : 1 ≤ hun n := by
  induction n with
  | zero => decide
  | succ n ih => simp only [hun]; omega
theorem hun_le {n : Nat} (h : n ≤ 5) : hun n ≤ 10000000000 := by
  have : n = 0 ∨ n = 1 ∨ n = 2 ∨ n = 3 ∨ n = 4 ∨ n = 5 := by omega
  rcases this with rfl | rfl | rfl | rfl | rfl | rfl <;> decide
def Var (l : List Int) : Prop := ∀ a ∈ l, 1 ≤ a ∧ a ≤ 100
theorem prd_bound {l : List Int} (h : Var l) : 1 ≤ prd l ∧ prd l ≤ hun l.length := by
  induction l with
  | nil => exact ⟨by decide, by decide⟩
  | cons x l ih =>
    have h1 := h x (List.mem_cons_self ..)
    have h2 := ih fun a ha => h a (List.mem_cons_of_mem _ ha)
    have h3 : 1 * 1 ≤ x * prd l := Int.mul_le_mul h1.1 h2.1 (by omega) (by omega)
    have h4 : x * prd l ≤ 100 * hun l.length := Int.mul_le_mul h1.2 h2.2 (by omega) (by omega)
    simp only [prd, List.length_cons, hun]
    omega
theorem prd_small {l : List Int} (h : Var l) (hl : l.length ≤ 5) : 1 ≤ prd l ∧ prd l ≤ 10000000000 := by
  have := prd_bound h
  have := hun_le hl
  omega
theorem div_ok {l : List Int} (h : Var l) {a : Int} (ha : a ∈ l) : ∃ w, prd l = w * a ∧ 1 ≤ w := by
  induction l with
  | nil => cases ha
  | cons x l ih =>
    have h1 := h x (List.mem_cons_self ..)
    have hl : Var l := fun a ha => h a (List.mem_cons_of_mem _ ha)
    rcases List.mem_cons.mp ha with rfl | ha
    · exact ⟨prd l, by simp only [prd, Int.mul_comm], (prd_bound hl).1⟩
    · obtain ⟨w, e, w1⟩ := ih hl ha
      refine ⟨x * w, by simp only [prd, e, Int.mul_assoc], ?_⟩
      have : 1 * 1 ≤ x * w := Int.mul_le_mul h1.1 w1 (by omega) (by omega)
      omega
theorem wt_ok {l : List Int} (h : Var l) (hl : l.length ≤ 5) {a : Int} (ha : a ∈ l) : prd l = (prd l / a) * a ∧ 1 ≤ prd l / a ∧ prd l / a ≤ 10000000000 := by
  obtain ⟨w, e, w1⟩ := div_ok h ha
  have h1 := h a ha
  have h2 := prd_small h hl
  have e2 : prd l / a = w := by rw [e]; exact Int.mul_ediv_cancel _ (by omega)
  rw [e2]
  refine ⟨e, w1, ?_⟩
  have : w * 1 ≤ w * a := Int.mul_le_mul_of_nonneg_left h1.1 (by omega)
  omega

/-! measurements, by pairs -/
abbrev Z := List (Int × Int)
def vs (z : Z) : List Int := z.map (·.1)
def ss (z : Z) : List Int := z.map (·.2)
def A (z : Z) : Int := prd (ss z)
def wt (z : Z) (p : Int × Int) : Int := A z / p.2
def top (z : Z) : Int := tot (z.map fun p => p.1 * wt z p)
def low (z : Z) : Int := tot (z.map fun p => wt z p)
def G (z : Z) : Nat := Nat.gcd (top z).natAbs (low z).natAbs
structure OkZ (z : Z) : Prop where
  l0 : 1 ≤ z.length
  l1 : z.length ≤ 5
  v : ∀ p ∈ z, -100000 ≤ p.1 ∧ p.1 ≤ 100000
  s : ∀ p ∈ z, 1 ≤ p.2 ∧ p.2 ≤ 100
theorem OkZ.var {z : Z} (h : OkZ z) : Var (ss z) := by
  intro a ha
  obtain ⟨p, hp, rfl⟩ := List.mem_map.mp ha
  exact h.s p hp
theorem OkZ.w {z : Z} (h : OkZ z) {p : Int × Int} (hp : p ∈ z) : A z = wt z p * p.2 ∧ 1 ≤ wt z p ∧ wt z p ≤ 10000000000 :=
  wt_ok h.var (by simp only [ss, List.length_map]; exact h.l1) (List.mem_map_of_mem hp)
theorem OkZ.vw {z : Z} (h : OkZ z) {p : Int × Int} (hp : p ∈ z) : -1000000000000000 ≤ p.1 * wt z p ∧ p.1 * wt z p ≤ 1000000000000000 := by
  have h1 := h.v p hp
  have h2 := h.w hp
  have a1 : p.1 * wt z p ≤ 100000 * wt z p := Int.mul_le_mul_of_nonneg_right h1.2 (by omega)
  have a2 : -100000 * wt z p ≤ p.1 * wt z p := Int.mul_le_mul_of_nonneg_right h1.1 (by omega)
  omega
theorem OkZ.topj {z : Z} (h : OkZ z) (j : Nat) : -5000000000000000 ≤ tot ((z.take j).map fun p => p.1 * wt z p) ∧ tot ((z.take j).map fun p => p.1 * wt z p) ≤ 5000000000000000 := by
  have := tot_bound (fun p => p.1 * wt z p) (-1000000000000000) 1000000000000000 (z.take j) fun p hp => h.vw (List.mem_of_mem_take hp)
  have hl := h.l1
  have : (z.take j).length ≤ 5 := by simp; omega
  omega
theorem OkZ.lowj {z : Z} (h : OkZ z) (j : Nat) : ((z.take j).length : Int) ≤ tot ((z.take j).map fun p => wt z p) ∧ tot ((z.take j).map fun p => wt z p) ≤ 50000000000 := by
  have := tot_bound (fun p => wt z p) 1 10000000000 (z.take j) fun p hp => (h.w (List.mem_of_mem_take hp)).2
  have hl := h.l1
  have : (z.take j).length ≤ 5 := by simp; omega
  omega
theorem OkZ.tl {z : Z} (h : OkZ z) : (-5000000000000000 ≤ top z ∧ top z ≤ 5000000000000000) ∧ 1 ≤ low z ∧ low z ≤ 50000000000 := by
  have h1 := h.topj z.length
  have h2 := h.lowj z.length
  have h3 := h.l0
  rw [List.take_length] at h1 h2
  exact ⟨h1, by unfold low; omega, h2.2⟩
theorem OkZ.g {z : Z} (h : OkZ z) : 1 ≤ G z ∧ (G z : Int) ≤ 50000000000 := by
  have := h.tl
  have h1 : 0 < G z := Nat.gcd_pos_of_pos_right _ (by omega)
  have h2 : G z ≤ (low z).natAbs := Nat.gcd_le_right _ (by omega)
  omega

/-- What they tell together. -/
def blend (z : Z) : Int × Int := (top z / G z, low z / G z)
theorem blend_eq (z : Z) : top z = G z * (blend z).1 ∧ low z = G z * (blend z).2 := by
  constructor
  · exact (Int.mul_ediv_cancel' (Int.ofNat_dvd_left.mpr (Nat.gcd_dvd_left _ _))).symm
  · exact (Int.mul_ediv_cancel' (Int.ofNat_dvd_left.mpr (Nat.gcd_dvd_right _ _))).symm

theorem getD_vs (z : Z) (j : Nat) : (vs z).getD j 0 = (z.getD j (0, 0)).1 := by
  simp only [vs, List.getD_eq_getElem?_getD, List.getElem?_map]
  cases z[j]? <;> rfl
theorem getD_ss (z : Z) (j : Nat) : (ss z).getD j 0 = (z.getD j (0, 0)).2 := by
  simp only [ss, List.getD_eq_getElem?_getD, List.getElem?_map]
  cases z[j]? <;> rfl
theorem mem_getD {z : Z} {j : Nat} (hj : j < z.length) : z.getD j (0, 0) ∈ z := by
  rw [List.getD_eq_getElem?_getD, List.getElem?_eq_getElem hj]; exact List.getElem_mem hj
theorem len_vs (z : Z) : (vs z).length = z.length := by simp [vs]
theorem len_ss (z : Z) : (ss z).length = z.length := by simp [ss]

theorem tmod_g {x y : Int} {z : Z} (h : OkZ z) (e : x = G z * y) : Int.tdiv x (G z) = y := by
  rw [e]; exact Int.mul_tdiv_cancel_left _ (by have := h.g; omega)

/-! the greatest common divisor -/
theorem gcd_spec (x y : Int) (g : Nat) (hx : 0 ≤ x) (hy : 0 ≤ y) (hg : Nat.gcd x.natAbs y.natAbs = g) (h0 : 0 < g) (a b : Int) :
    Ev (fun k => spec_Blend.l2 k a b x y) (wrap64 (Int.tdiv a g), wrap64 (Int.tdiv b g)) := by
  have main : ∀ (m : Nat) (x y : Int), y.natAbs = m → 0 ≤ x → 0 ≤ y → Nat.gcd x.natAbs y.natAbs = g → Ev (fun k => spec_Blend.l2 k a b x y) (wrap64 (Int.tdiv a g), wrap64 (Int.tdiv b g)) := by
    intro m
    induction m using Nat.strongRecOn with
    | _ m ih =>
      intro x y hm hx hy hg
      by_cases c : y > 0
      · have h1 : (Int.tmod x y).natAbs = x.natAbs % y.natAbs := Int.natAbs_tmod x y
        have h2 : x.natAbs % y.natAbs < y.natAbs := Nat.mod_lt _ (by omega)
        refine Ev.step (fun k => ?_) (ih _ (by omega) y (Int.tmod x y) rfl hy (Int.tmod_nonneg _ hx) (by rw [h1, Nat.gcd_comm, ← Nat.gcd_rec, Nat.gcd_comm]; exact hg))
        simp only [spec_Blend.l2]
        rw [if_pos c, if_neg (by omega)]
      · obtain rfl : y = 0 := by omega
        have : x = (g : Int) := by simp at hg; omega
        refine Ev_succ fun k => ?_
        simp only [spec_Blend.l2]
        rw [if_neg c, if_neg (by omega), this]
  exact main _ x y rfl hx hy hg

theorem gcd_impl (x y : Int) (g : Nat) (hg : Nat.gcd x.natAbs y.natAbs = g) (hx : x.natAbs ≤ 1000000000000000000) (hy : y.natAbs ≤ 1000000000000000000) :
    Ev (fun k => impl_gcd.f k x y) (g : Int) := by
  simp only [impl_gcd.f]
  have main : ∀ (m : Nat) (x y : Int), y.natAbs = m → Nat.gcd x.natAbs y.natAbs = g → x.natAbs ≤ 1000000000000000000 → y.natAbs ≤ 1000000000000000000 → Ev (fun k => impl_gcd.l0 k x y) (g : Int) := by
    intro m
    induction m using Nat.strongRecOn with
    | _ m ih =>
      intro x y hm hg hx hy
      by_cases c : y = 0
      · subst c
        refine Ev_succ fun k => ?_
        simp only [impl_gcd.l0]
        simp at hg
        rw [if_pos trivial, w64 (x := -x) (by omega) (by omega)]
        congr 1
        unfold mx
        split <;> omega
      · have h1 : (Int.tmod x y).natAbs = x.natAbs % y.natAbs := Int.natAbs_tmod x y
        have h2 : x.natAbs % y.natAbs < y.natAbs := Nat.mod_lt _ (by omega)
        refine Ev.step (fun k => ?_) (ih _ (by omega) y (Int.tmod x y) rfl (by rw [h1, Nat.gcd_comm, ← Nat.gcd_rec, Nat.gcd_comm]; exact hg) hy (by omega))
        simp only [impl_gcd.l0]
        rw [if_neg c]
  exact main _ x y rfl hg hx hy

/-! the reference -/
theorem blend_spec_l0 {z : Z} (h : OkZ z) : Ev (fun k => spec_Blend.l0 k (vs z) (ss z) 0 0 0) (blend z) := by
  have hl := h.l1
  have htl := h.tl
  have hg := h.g
  have main : ∀ t j, z.length - j = t → j ≤ z.length → Ev (fun k => spec_Blend.l0 k (vs z) (ss z) (tot ((z.take j).map fun p => p.1 * wt z p)) (tot ((z.take j).map fun p => wt z p)) (j : Int)) (blend z) := by
    intro t
    induction t with
    | zero =>
      intro j h1 h2
      obtain rfl : j = z.length := by omega
      rw [List.take_length]
      have hmx : mx (top z) (wrap64 (-top z)) = ((top z).natAbs : Int) := by
        rw [w64 (by omega) (by omega)]
        unfold mx
        split <;> omega
      have e := gcd_spec (mx (top z) (wrap64 (-top z))) (low z) (G z) (by rw [hmx]; omega) (by omega) (by rw [hmx]; rfl) (by omega) (top z) (low z)
      have eb := blend_eq z
      have b1 : -5000000000000000 ≤ (blend z).1 ∧ (blend z).1 ≤ 5000000000000000 := by
        have : (blend z).1.natAbs ≤ (top z).natAbs := by
          have e' : (top z).natAbs = G z * (blend z).1.natAbs := by rw [eb.1, Int.natAbs_mul]; simp
          rw [e']; exact Nat.le_mul_of_pos_left _ (by omega)
        omega
      have b2 : -50000000000 ≤ (blend z).2 ∧ (blend z).2 ≤ 50000000000 := by
        have : (blend z).2.natAbs ≤ (low z).natAbs := by
          have e' : (low z).natAbs = G z * (blend z).2.natAbs := by rw [eb.2, Int.natAbs_mul]; simp
          rw [e']; exact Nat.le_mul_of_pos_left _ (by omega)
        omega
      rw [tmod_g h eb.1, tmod_g h eb.2, w64 (x := (blend z).1) (by omega) (by omega), w64 (x := (blend z).2) (by omega) (by omega)] at e
      refine Ev.step (fun k => ?_) e
      simp only [spec_Blend.l0]
      rw [if_neg (by rw [len_vs]; omega)]
      rfl
    | succ t ih =>
      intro j h1 h2
      have hj : j < z.length := by omega
      have hp := mem_getD hj
      have hw := h.w hp
      have hvw := h.vw hp
      have hs := h.s _ hp
      have ht := h.topj j
      have ht2 := h.topj (j + 1)
      have hlo := h.lowj j
      have hlo2 := h.lowj (j + 1)
      have next := ih (j + 1) (by omega) (by omega)
      rw [tot_take_succ _ z (0, 0) j hj] at next ht2
      rw [tot_take_succ _ z (0, 0) j hj] at next hlo2
      have inner : ∀ t q (x : Int), z.length - q = t → q ≤ z.length → 1 ≤ x → (q ≤ j → x = prd ((ss z).take q)) → (j < q → x * (z.getD j (0, 0)).2 = prd ((ss z).take q)) →
          Ev (fun k => spec_Blend.l1 k (vs z) (ss z) (tot ((z.take j).map fun p => p.1 * wt z p)) (tot ((z.take j).map fun p => wt z p)) (j : Int) x (q : Int)) (blend z) := by
        intro t
        induction t with
        | zero =>
          intro q x h3 h4 hx h5 h6
          obtain rfl : q = z.length := by omega
          have e := h6 hj
          rw [show (ss z).take z.length = ss z by rw [← len_ss z, List.take_length]] at e
          have ex : x = wt z (z.getD j (0, 0)) := by
            have : x * (z.getD j (0, 0)).2 = wt z (z.getD j (0, 0)) * (z.getD j (0, 0)).2 := by rw [e, ← hw.1]; rfl
            exact Int.eq_of_mul_eq_mul_right (by omega) this
          refine Ev.step (fun k => ?_) next
          simp only [spec_Blend.l1]
          rw [if_neg (by rw [len_ss]; omega), if_pos (by omega), if_pos (by rw [len_vs]; omega), rd_nat, getD_vs, ex, w64 (x := (z.getD j (0, 0)).1 * wt z (z.getD j (0, 0))) (by omega) (by omega), w64 (by omega) (by omega), w64 (by omega) (by omega), up1 (by omega)]
        | succ t ih2 =>
          intro q x h3 h4 hx h5 h6
          have hq : q < z.length := by omega
          have hq' : q < (ss z).length := by rw [len_ss]; exact hq
          have hsq := h.s _ (mem_getD hq)
          have hb := prd_bound (l := (ss z).take q) fun a ha => h.var a (List.mem_of_mem_take ha)
          have hlq : ((ss z).take q).length ≤ 5 := by rw [List.length_take]; omega
          have hh := hun_le hlq
          have hpt := prd_take_succ (ss z) q hq'
          rw [getD_ss] at hpt
          by_cases c : q = j
          · subst c
            refine Ev.step (fun k => ?_) (ih2 (q + 1) x (by omega) (by omega) hx (fun h => by omega) (fun _ => by rw [hpt, h5 (Nat.le_refl _)]))
            simp only [spec_Blend.l1]
            rw [if_pos (by rw [len_ss]; omega), if_pos trivial, up1 (by omega)]
          · have xle : x ≤ 10000000000 := by
              by_cases c2 : q ≤ j
              · have := h5 c2; omega
              · have e := h6 (by omega)
                have : x * 1 ≤ x * (z.getD j (0, 0)).2 := Int.mul_le_mul_of_nonneg_left hs.1 (by omega)
                omega
            have m1 : x * (z.getD q (0, 0)).2 ≤ x * 100 := Int.mul_le_mul_of_nonneg_left hsq.2 (by omega)
            have m2 : x * 1 ≤ x * (z.getD q (0, 0)).2 := Int.mul_le_mul_of_nonneg_left hsq.1 (by omega)
            refine Ev.step (fun k => ?_) (ih2 (q + 1) (x * (z.getD q (0, 0)).2) (by omega) (by omega) (by omega) (fun h => by rw [hpt, ← h5 (by omega)]) (fun hh => by rw [hpt, ← h6 (by omega), Int.mul_assoc, Int.mul_assoc, Int.mul_comm (z.getD q (0, 0)).2]))
            simp only [spec_Blend.l1]
            rw [if_pos (by rw [len_ss]; omega), if_neg (by omega), if_pos (by omega), rd_nat, getD_ss, w64 (x := x * (z.getD q (0, 0)).2) (by omega) (by omega), up1 (by omega)]
      refine Ev.step (fun k => ?_) (inner _ 0 1 rfl (by omega) (by omega) (fun _ => rfl) (fun h => by omega))
      simp only [spec_Blend.l0]
      rw [if_pos (by rw [len_vs]; omega)]
      rfl
  exact main _ 0 rfl (by omega)

/-! the program -/
theorem blend_impl_l0 {z : Z} (h : OkZ z) : Ev (fun k => impl_Blend.l0 k (vs z) (ss z) 1 (ss z) ((ss z).length : Int) 0) (blend z) := by
  have hl := h.l1
  have htl := h.tl
  have hg := h.g
  have hA := prd_small h.var (by rw [len_ss]; exact h.l1)
  have sums : ∀ t j, z.length - j = t → j ≤ z.length → Ev (fun k => impl_Blend.l1 k (vs z) (A z) (tot ((z.take j).map fun p => p.1 * wt z p)) (tot ((z.take j).map fun p => wt z p)) (ss z) ((ss z).length : Int) (j : Int)) (blend z) := by
    intro t
    induction t with
    | zero =>
      intro j h1 h2
      obtain rfl : j = z.length := by omega
      rw [List.take_length]
      have e := gcd_impl (top z) (low z) (G z) rfl (by omega) (by omega)
      have eb := blend_eq z
      have b1 : -5000000000000000 ≤ (blend z).1 ∧ (blend z).1 ≤ 5000000000000000 := by
        have : (blend z).1.natAbs ≤ (top z).natAbs := by
          have e' : (top z).natAbs = G z * (blend z).1.natAbs := by rw [eb.1, Int.natAbs_mul]; simp
          rw [e']; exact Nat.le_mul_of_pos_left _ (by omega)
        omega
      have b2 : -50000000000 ≤ (blend z).2 ∧ (blend z).2 ≤ 50000000000 := by
        have : (blend z).2.natAbs ≤ (low z).natAbs := by
          have e' : (low z).natAbs = G z * (blend z).2.natAbs := by rw [eb.2, Int.natAbs_mul]; simp
          rw [e']; exact Nat.le_mul_of_pos_left _ (by omega)
        omega
      have fin : Ev (fun k => (impl_gcd.f k (top z) (low z)).bind fun t566 => (if t566 = 0 then (none) else (some (wrap64 (Int.tdiv (top z) t566), wrap64 (Int.tdiv (low z) t566))))) (blend z) := by
        refine Ev.bind e (evNeg (by omega) ?_)
        rw [tmod_g h eb.1, tmod_g h eb.2, w64 (by omega) (by omega), w64 (by omega) (by omega)]
        exact Ev.now _
      refine Ev.step (fun k => ?_) fin
      simp only [impl_Blend.l1]
      rw [if_neg (by rw [len_ss]; omega)]
      rfl
    | succ t ih =>
      intro j h1 h2
      have hj : j < z.length := by omega
      have hp := mem_getD hj
      have hw := h.w hp
      have hvw := h.vw hp
      have hs := h.s _ hp
      have ht := h.topj j
      have ht2 := h.topj (j + 1)
      have hlo := h.lowj j
      have hlo2 := h.lowj (j + 1)
      have next := ih (j + 1) (by omega) (by omega)
      rw [tot_take_succ _ z (0, 0) j hj] at next ht2
      rw [tot_take_succ _ z (0, 0) j hj] at next hlo2
      have ed : Int.tdiv (A z) (z.getD j (0, 0)).2 = wt z (z.getD j (0, 0)) := by
        rw [Int.tdiv_eq_ediv_of_nonneg (by unfold A; omega)]; rfl
      refine Ev.step (fun k => ?_) next
      simp only [impl_Blend.l1]
      rw [if_pos (by rw [len_ss]; omega), if_pos (by omega), if_pos (by rw [len_ss]; omega), if_pos (by rw [len_vs]; omega), rd_nat, rd_nat, getD_vs, getD_ss, if_neg (by omega), ed, w64 (x := wt z (z.getD j (0, 0))) (by omega) (by omega), w64 (x := (z.getD j (0, 0)).1 * wt z (z.getD j (0, 0))) (by omega) (by omega), w64 (by omega) (by omega), w64 (by omega) (by omega), up1 (by omega)]
  have main : ∀ t j, z.length - j = t → j ≤ z.length → Ev (fun k => impl_Blend.l0 k (vs z) (ss z) (prd ((ss z).take j)) (ss z) ((ss z).length : Int) (j : Int)) (blend z) := by
    intro t
    induction t with
    | zero =>
      intro j h1 h2
      obtain rfl : j = z.length := by omega
      refine Ev.step (fun k => ?_) (sums _ 0 rfl (by omega))
      simp only [impl_Blend.l0]
      rw [if_neg (by rw [len_ss]; omega), show (ss z).take z.length = ss z by rw [← len_ss z, List.take_length]]
      rfl
    | succ t ih =>
      intro j h1 h2
      have hj : j < z.length := by omega
      have hj' : j < (ss z).length := by rw [len_ss]; exact hj
      have hb := prd_bound (l := (ss z).take j) fun a ha => h.var a (List.mem_of_mem_take ha)
      have hb2 := prd_bound (l := (ss z).take (j + 1)) fun a ha => h.var a (List.mem_of_mem_take ha)
      have hh2 := hun_le (n := ((ss z).take (j + 1)).length) (by rw [List.length_take]; omega)
      have next := ih (j + 1) (by omega) (by omega)
      rw [prd_take_succ _ _ hj'] at next hb2
      refine Ev.step (fun k => ?_) next
      simp only [impl_Blend.l0]
      rw [if_pos (by omega), if_pos (by omega), if_pos (by omega), rd_nat, w64 (by omega) (by omega), up1 (by omega)]
  exact main _ 0 rfl (by omega)

/-! both, with their tests -/
def allB (l : List Int) (n lo hi : Int) : Bool := decide ((l.length : Int) = n) && l.all fun x => inS x lo hi
def okB (v s : List Int) : Bool := inS (v.length : Int) 1 5 && (allB v v.length (-100000) 100000 && allB s v.length 1 100)

theorem okZ_of {v s : List Int} (h : okB v s = true) : OkZ (v.zip s) ∧ vs (v.zip s) = v ∧ ss (v.zip s) = s := by
  simp only [okB, allB, Bool.and_eq_true, inS_iff, decide_eq_true_iff, List.all_eq_true] at h
  obtain ⟨⟨a, b⟩, ⟨_, c⟩, d, e⟩ := h
  have hl : s.length = v.length := by omega
  have e1 : vs (v.zip s) = v := by unfold vs; exact List.map_fst_zip (by omega)
  have e2 : ss (v.zip s) = s := by unfold ss; exact List.map_snd_zip (by omega)
  refine ⟨⟨by rw [List.length_zip]; omega, by rw [List.length_zip]; omega, fun p hp => ?_, fun p hp => ?_⟩, e1, e2⟩
  · exact c p.1 (List.of_mem_zip hp).1
  · exact e p.2 (List.of_mem_zip hp).2
theorem okB_of {z : Z} (h : OkZ z) : okB (vs z) (ss z) = true := by
  simp only [okB, allB, Bool.and_eq_true, inS_iff, decide_eq_true_iff, List.all_eq_true, len_vs, len_ss]
  have := h.l0
  have := h.l1
  refine ⟨by omega, ⟨trivial, fun a ha => ?_⟩, trivial, fun a ha => ?_⟩
  · obtain ⟨p, hp, rfl⟩ := List.mem_map.mp ha
    exact h.v p hp
  · obtain ⟨p, hp, rfl⟩ := List.mem_map.mp ha
    exact h.s p hp

def bl (v s : List Int) : Int × Int := if okB v s = true then blend (v.zip s) else (0, 0)

theorem blend_spec (v s : List Int) (hv : v.length ≤ 1048576) (hs : s.length ≤ 1048576) : Ev (fun k => spec_Blend.f k v s) (bl v s) := by
  simp only [spec_Blend.f]
  have no : Ev (fun k => spec_Blend.j0 k v s true) (0, 0) := Ev_succ fun k => by simp only [spec_Blend.j0]; rfl
  unfold bl
  by_cases h1 : inS (v.length : Int) 1 5 = true
  · have h1' := (inS_iff _ _ _).mp h1
    refine evNeg (by omega) (evNeg (by omega) (Ev.bind (all_spec v v.length (-100000) 100000 (by omega)) ?_))
    by_cases h2 : allB v v.length (-100000) 100000 = true
    · refine evPos h2 (Ev.bind (all_spec s v.length 1 100 (by omega)) ?_)
      by_cases h3 : allB s v.length 1 100 = true
      · have hk : okB v s = true := by unfold okB; rw [h1, h2, h3]; rfl
        rw [if_pos hk, show (!(decide ((s.length : Int) = (v.length : Int)) && s.all fun x => inS x 1 100)) = false by rw [show (decide ((s.length : Int) = (v.length : Int)) && s.all fun x => inS x 1 100) = allB s v.length 1 100 from rfl, h3]; rfl]
        obtain ⟨hz, e1, e2⟩ := okZ_of hk
        have := blend_spec_l0 hz
        rw [e1, e2] at this
        refine Ev.step (fun k => ?_) this
        simp only [spec_Blend.j0]
        rfl
      · rw [Bool.not_eq_true] at h3
        rw [if_neg (by unfold okB; rw [h3]; simp), show (!(decide ((s.length : Int) = (v.length : Int)) && s.all fun x => inS x 1 100)) = true by rw [show (decide ((s.length : Int) = (v.length : Int)) && s.all fun x => inS x 1 100) = allB s v.length 1 100 from rfl, h3]; rfl]
        exact no
    · rw [Bool.not_eq_true] at h2
      rw [if_neg (by unfold okB; rw [h2]; simp)]
      exact evNeg (by rw [show (decide ((v.length : Int) = (v.length : Int)) && v.all fun x => inS x (-100000) 100000) = allB v v.length (-100000) 100000 from rfl, h2]; decide) no
  · rw [if_neg (by unfold okB; rw [Bool.not_eq_true] at h1; rw [h1]; simp)]
    have h1' : ¬ (1 ≤ (v.length : Int) ∧ (v.length : Int) ≤ 5) := fun h => h1 ((inS_iff _ _ _).mpr h)
    by_cases c : (v.length : Int) < 1
    · exact evPos c no
    · exact evNeg c (evPos (by omega) no)

theorem blend_impl (v s : List Int) (hv : v.length ≤ 1048576) (hs : s.length ≤ 1048576) : Ev (fun k => impl_Blend.f k v s) (bl v s) := by
  simp only [impl_Blend.f, in_s, Option.bind_some]
  have no : Ev (fun k => impl_Blend.j0 k v s true) (0, 0) := Ev_succ fun k => by simp only [impl_Blend.j0]; rfl
  unfold bl
  by_cases h1 : inS (v.length : Int) 1 5 = true
  · refine evPos h1 (Ev.bind (all_impl v v.length (-100000) 100000 (by omega)) ?_)
    by_cases h2 : allB v v.length (-100000) 100000 = true
    · refine evPos h2 (Ev.bind (all_impl s v.length 1 100 (by omega)) ?_)
      by_cases h3 : allB s v.length 1 100 = true
      · have hk : okB v s = true := by unfold okB; rw [h1, h2, h3]; rfl
        rw [if_pos hk, show (!(decide ((s.length : Int) = (v.length : Int)) && s.all fun x => inS x 1 100)) = false by rw [show (decide ((s.length : Int) = (v.length : Int)) && s.all fun x => inS x 1 100) = allB s v.length 1 100 from rfl, h3]; rfl]
        obtain ⟨hz, e1, e2⟩ := okZ_of hk
        have := blend_impl_l0 hz
        rw [e1, e2] at this
        refine Ev.step (fun k => ?_) this
        simp only [impl_Blend.j0]
        rfl
      · rw [Bool.not_eq_true] at h3
        rw [if_neg (by unfold okB; rw [h3]; simp), show (!(decide ((s.length : Int) = (v.length : Int)) && s.all fun x => inS x 1 100)) = true by rw [show (decide ((s.length : Int) = (v.length : Int)) && s.all fun x => inS x 1 100) = allB s v.length 1 100 from rfl, h3]; rfl]
        exact no
    · rw [Bool.not_eq_true] at h2
      rw [if_neg (by unfold okB; rw [h2]; simp)]
      exact evNeg (by rw [show (decide ((v.length : Int) = (v.length : Int)) && v.all fun x => inS x (-100000) 100000) = allB v v.length (-100000) 100000 from rfl, h2]; decide) no
  · rw [if_neg (by unfold okB; rw [Bool.not_eq_true] at h1; rw [h1]; simp)]
    exact evNeg h1 no

theorem sum_ev (l : List Int) (hl : l.length ≤ 5) (hv : ∀ a ∈ l, -100000 ≤ a ∧ a ≤ 100000) : Ev (fun k => laws_sum.f k l) (tot l) := by
  simp only [laws_sum.f]
  have main : ∀ t j, l.length - j = t → j ≤ l.length → Ev (fun k => laws_sum.l0 k l (tot ((l.take j).map id)) (j : Int)) (tot l) := by
    intro t
    induction t with
    | zero =>
      intro j h1 h2
      obtain rfl : j = l.length := by omega
      refine Ev_succ fun k => ?_
      simp only [laws_sum.l0]
      rw [if_neg (by omega), List.take_length, List.map_id]
    | succ t ih =>
      intro j h1 h2
      have hj : j < l.length := by omega
      have next := ih (j + 1) (by omega) (by omega)
      have b := tot_bound id (-100000) 100000 (l.take (j + 1)) fun a ha => hv a (List.mem_of_mem_take ha)
      have hlen : (l.take (j + 1)).length ≤ 5 := by rw [List.length_take]; omega
      rw [tot_take_succ id l 0 j hj] at next b
      refine Ev.step (fun k => ?_) next
      simp only [laws_sum.l0]
      rw [if_pos (by omega), if_pos (by omega), rd_nat, w64 (by simp only [id] at b ⊢; omega) (by simp only [id] at b ⊢; omega), up1 (by omega)]
      rfl
  exact main _ 0 rfl (by omega)

/-! what the law asks of the blend -/
theorem vs_rev (z : Z) : vs z.reverse = (vs z).reverse := by simp [vs]
theorem ss_rev (z : Z) : ss z.reverse = (ss z).reverse := by simp [ss]
theorem A_rev (z : Z) : A z.reverse = A z := by unfold A; rw [ss_rev, prd_rev]
theorem wt_rev (z : Z) : wt z.reverse = wt z := by funext p; unfold wt; rw [A_rev]
theorem top_rev (z : Z) : top z.reverse = top z := by unfold top; rw [wt_rev]; exact tot_map_rev _ z
theorem low_rev (z : Z) : low z.reverse = low z := by unfold low; rw [wt_rev]; exact tot_map_rev _ z
theorem blend_rev (z : Z) : blend z.reverse = blend z := by unfold blend G; rw [top_rev, low_rev]
theorem okZ_rev {z : Z} (h : OkZ z) : OkZ z.reverse :=
  ⟨by rw [List.length_reverse]; exact h.l0, by rw [List.length_reverse]; exact h.l1, fun p hp => h.v p (List.mem_reverse.mp hp), fun p hp => h.s p (List.mem_reverse.mp hp)⟩

theorem blend_den {z : Z} (h : OkZ z) : 1 ≤ (blend z).2 ∧ (blend z).2 ≤ 50000000000 ∧ (-5000000000000000 ≤ (blend z).1 ∧ (blend z).1 ≤ 5000000000000000) := by
  have eb := blend_eq z
  have hg := h.g
  have htl := h.tl
  have a : 0 < (blend z).2 := by
    apply Int.lt_of_not_ge
    intro hle
    have : (G z : Int) * (blend z).2 ≤ G z * 0 := Int.mul_le_mul_of_nonneg_left hle (by omega)
    omega
  refine ⟨a, ?_, ?_⟩
  · have : (1 : Int) * (blend z).2 ≤ G z * (blend z).2 := Int.mul_le_mul_of_nonneg_right (by omega) (by omega)
    omega
  · have : (blend z).1.natAbs ≤ (top z).natAbs := by
      have e' : (top z).natAbs = G z * (blend z).1.natAbs := by rw [eb.1, Int.natAbs_mul]; simp
      rw [e']; exact Nat.le_mul_of_pos_left _ (by omega)
    omega

theorem tot_scale {α} (f : α → Int) (c : Int) (l : List α) : tot (l.map fun a => c * f a) = c * tot (l.map f) := by
  induction l with
  | nil => simp [tot]
  | cons x l ih => simp only [List.map_cons, tot, ih, Int.mul_add]

theorem between {z : Z} (h : OkZ z) (lo hi : Int) (hlo : ∀ p ∈ z, lo ≤ p.1) (hhi : ∀ p ∈ z, p.1 ≤ hi) : lo * (blend z).2 ≤ (blend z).1 ∧ (blend z).1 ≤ hi * (blend z).2 := by
  have eb := blend_eq z
  have hg := h.g
  have a1 : lo * low z ≤ top z := by
    unfold low top
    rw [← tot_scale]
    exact tot_le _ _ z fun p hp => Int.mul_le_mul_of_nonneg_right (hlo p hp) (by have := (h.w hp).2; omega)
  have a2 : top z ≤ hi * low z := by
    unfold low top
    rw [← tot_scale]
    exact tot_le _ _ z fun p hp => Int.mul_le_mul_of_nonneg_right (hhi p hp) (by have := (h.w hp).2; omega)
  rw [eb.1, eb.2] at a1 a2
  constructor
  · refine Int.le_of_mul_le_mul_left (a := (G z : Int)) ?_ (by omega)
    rw [← Int.mul_assoc, Int.mul_comm (G z : Int) lo, Int.mul_assoc]; exact a1
  · refine Int.le_of_mul_le_mul_left (a := (G z : Int)) ?_ (by omega)
    rw [← Int.mul_assoc, Int.mul_comm (G z : Int) hi, Int.mul_assoc]; exact a2

/-- All variances alike. -/
def alike (z : Z) (c : Int) : Z := z.map fun p => (p.1, c)
theorem vs_alike (z : Z) (c : Int) : vs (alike z c) = vs z := by simp [vs, alike]
theorem ss_alike (z : Z) (c : Int) : ss (alike z c) = List.replicate z.length c := by
  simp only [ss, alike, List.map_map]
  induction z with
  | nil => rfl
  | cons x z ih => simp only [List.map_cons, ih, List.length_cons, List.replicate_succ]; rfl
theorem okZ_alike {z : Z} (h : OkZ z) (c : Int) (hc : 1 ≤ c ∧ c ≤ 100) : OkZ (alike z c) := by
  refine ⟨by rw [alike, List.length_map]; exact h.l0, by rw [alike, List.length_map]; exact h.l1, fun p hp => ?_, fun p hp => ?_⟩
  · obtain ⟨q, hq, rfl⟩ := List.mem_map.mp hp
    exact h.v q hq
  · obtain ⟨q, hq, rfl⟩ := List.mem_map.mp hp
    exact hc
theorem mean_eq {z : Z} (h : OkZ z) (c : Int) (hc : 1 ≤ c ∧ c ≤ 100) : (blend (alike z c)).1 * z.length = tot (vs z) * (blend (alike z c)).2 := by
  have hz := okZ_alike h c hc
  have eb := blend_eq (alike z c)
  have hg := hz.g
  have w : ∀ p ∈ alike z c, wt (alike z c) p = A (alike z c) / c := by
    intro p hp
    obtain ⟨q, hq, rfl⟩ := List.mem_map.mp hp
    rfl
  have e1 : top (alike z c) = (A (alike z c) / c) * tot (vs z) := by
    rw [← vs_alike z c]
    unfold top vs
    rw [← tot_scale]
    congr 1
    exact List.map_congr_left fun p hp => by rw [w p hp, Int.mul_comm]
  have e2 : low (alike z c) = (A (alike z c) / c) * z.length := by
    have : low (alike z c) = tot ((alike z c).map fun _ => (A (alike z c) / c) * 1) := by
      unfold low
      congr 1
      exact List.map_congr_left fun p hp => by rw [w p hp, Int.mul_one]
    rw [this, tot_scale]
    congr 1
    have : ∀ y : Z, tot (y.map fun _ => (1 : Int)) = y.length := by
      intro y
      induction y with
      | nil => rfl
      | cons x y ih => simp only [List.map_cons, tot, ih, List.length_cons]; omega
    rw [this, alike, List.length_map]
  refine Int.eq_of_mul_eq_mul_left (a := (G (alike z c) : Int)) (by omega) ?_
  rw [← Int.mul_assoc, ← eb.1, e1, Int.mul_comm (tot (vs z)), ← Int.mul_assoc, ← eb.2, e2, Int.mul_assoc, Int.mul_assoc, Int.mul_comm (tot (vs z))]

/-! the draws -/
theorem draw_ok {l : List Int} (h : Src l) : ∃ v s, Ev (fun k => spec_DrawBlend.f k l) (v, s) ∧ v.length ≤ 10 ∧ s.length ≤ 10 := by
  have e0 : spec_l1Open.f l = some (l, 0) := rfl
  simp -implicitDefEqProofs only [spec_DrawBlend.f, e0, Option.bind_some]
  obtain ⟨n, q, e, n0, n1, hq⟩ := below_ok h (p := 0) (by unfold At; omega) 5 (by omega)
  have hn : wrap64 (1 + n) = 1 + n := w64 (by omega) (by omega)
  simp -implicitDefEqProofs only [e, Option.bind_some, hn]
  have main : ∀ (t : Nat) (i : Int) (v s : List Int) (p : Int), 1 + n - i = t → i = v.length → i = s.length → i ≤ 1 + n → At l p → ∃ v' s', Ev (fun k => spec_DrawBlend.l0 k (1 + n) v s i l p) (v', s') ∧ v'.length ≤ 10 ∧ s'.length ≤ 10 := by
    intro t
    induction t with
    | zero =>
      intro i v s p h1 h2 h3 h4 hp
      obtain ⟨u, q, e, u0, u1, hq⟩ := below_ok h hp 20 (by omega)
      have key : ∃ r : List Int × List Int, (∃ g : Option (List Int × List Int), (∀ k, spec_DrawBlend.l0 (k + 1) (1 + n) v s i l p = g) ∧ g = some r) ∧ r.1.length ≤ 10 ∧ r.2.length ≤ 10 := by
        by_cases c0 : u = 0
        · obtain ⟨a, q2, e2, a0, a1, _⟩ := below_ok h hq 4 (by omega)
          refine ⟨(v.set 0 (rd [100000, 100001, -100000, -100001] a), s), ⟨_, fun k => ?_, rfl⟩, by simp; omega, by show s.length ≤ 10; omega⟩
          simp -implicitDefEqProofs only [spec_DrawBlend.l0]
          rw [if_neg (by omega), e, Option.bind_some, if_pos c0, Option.bind_some, e2, Option.bind_some, if_pos a0, if_pos (by simpa using a1), if_pos (by omega)]
          rfl
        by_cases c1 : u = 1
        · obtain ⟨a, q2, e2, a0, a1, _⟩ := below_ok h hq 3 (by omega)
          refine ⟨(v, s.set 0 (rd [0, 100, 101] a)), ⟨_, fun k => ?_, rfl⟩, by show v.length ≤ 10; omega, by simp; omega⟩
          simp -implicitDefEqProofs only [spec_DrawBlend.l0]
          rw [if_neg (by omega), e, Option.bind_some, if_neg c0, if_pos c1, Option.bind_some, e2, Option.bind_some, if_pos a0, if_pos (by simpa using a1), if_pos (by omega)]
          rfl
        by_cases c2 : u = 2
        · refine ⟨(v, s ++ [1]), ⟨_, fun k => ?_, rfl⟩, by show v.length ≤ 10; omega, by simp; omega⟩
          simp -implicitDefEqProofs only [spec_DrawBlend.l0]
          rw [if_neg (by omega), e, Option.bind_some, if_neg c0, if_neg c1, if_pos c2, if_pos (by omega)]
        by_cases c3 : u = 3
        · refine ⟨(v.take 0, s.take 0), ⟨_, fun k => ?_, rfl⟩, by simp, by simp⟩
          simp -implicitDefEqProofs only [spec_DrawBlend.l0]
          rw [if_neg (by omega), e, Option.bind_some, if_neg c0, if_neg c1, if_neg c2, if_pos c3, if_pos (by omega), if_pos (by omega)]
          rfl
        · refine ⟨(v, s), ⟨_, fun k => ?_, rfl⟩, by show v.length ≤ 10; omega, by show s.length ≤ 10; omega⟩
          simp -implicitDefEqProofs only [spec_DrawBlend.l0]
          rw [if_neg (by omega), e, Option.bind_some, if_neg c0, if_neg c1, if_neg c2, if_neg c3]
      obtain ⟨r, ⟨g, hk, hg⟩, r1, r2⟩ := key
      exact ⟨r.1, r.2, Ev_succ fun k => (hk k).trans hg, r1, r2⟩
    | succ t ih =>
      intro i v s p h1 h2 h3 h4 hp
      obtain ⟨a, q, e, _, _, hq⟩ := below_ok h hp 600 (by omega)
      obtain ⟨b, q2, e2, _, _, hq2⟩ := below_ok h hq 12 (by omega)
      obtain ⟨v', s', e', r⟩ := ih (i + 1) (v ++ [wrap64 (a - 300)]) (s ++ [wrap64 (1 + b)]) q2 (by omega) (by simp; omega) (by simp; omega) (by omega) hq2
      refine ⟨v', s', Ev.step (fun k => ?_) e', r⟩
      simp -implicitDefEqProofs only [spec_DrawBlend.l0]
      rw [if_pos (by omega), e, Option.bind_some, if_pos (by omega), e2, Option.bind_some, if_pos (by omega), w64 (x := i + 1) (by omega) (by omega)]
  exact main (1 + n).toNat 0 [] [] q (by omega) (by simp) (by simp) (by omega) hq

theorem mx_ge (a b : Int) : a ≤ mx a b ∧ b ≤ mx a b ∧ (mx a b = a ∨ mx a b = b) := by unfold mx; split <;> omega
theorem mn_le (a b : Int) : mn a b ≤ a ∧ mn a b ≤ b ∧ (mn a b = a ∨ mn a b = b) := by unfold mn; split <;> omega

theorem FnBlended : laws_FnBlended.Pure := by
  intro l _ _ hb
  refine Ev.rounds ?_
  simp only [laws_FnBlended.f, laws_big.f, Option.bind_some]
  by_cases big : decide ((l.length : Int) > 1048576) = true
  · exact evPos big (Ev.now _)
  refine evNeg big ?_
  have h : Src l := ⟨by have := big; simp at this; omega, fun x hx => by have := hb x hx; simp [Lit.wf] at this; exact this⟩
  obtain ⟨v, s, e, v1, s1⟩ := draw_ok h
  refine Ev.bind e (Ev.bind (blend_spec v s (by omega) (by omega)) (Ev.bind (blend_impl v s (by omega) (by omega)) (evPos rfl ?_)))
  by_cases ok : okB v s = true
  · obtain ⟨hz, e1, e2⟩ := okZ_of ok
    have hbl : bl v s = blend (v.zip s) := by simp [bl, ok]
    rw [hbl]
    generalize hzz : v.zip s = z at *
    subst e1 e2
    have hd := blend_den hz
    have hl0 := hz.l0
    have hl1 := hz.l1
    refine evNeg (by omega) (evPos (by rw [len_vs]; omega) ?_)
    have hp0 : z.getD 0 (0, 0) ∈ z := mem_getD (by omega)
    have hs0 := hz.s _ hp0
    have hv0 := hz.v _ hp0
    have main : ∀ j (lo hi : Int), j ≤ z.length → (∀ i, j ≤ i → i < z.length → lo ≤ (z.getD i (0, 0)).1 ∧ (z.getD i (0, 0)).1 ≤ hi) → (-100000 ≤ lo ∧ lo ≤ 100000) → (-100000 ≤ hi ∧ hi ≤ 100000) →
        Ev (fun k => laws_FnBlended.l0 k (vs z) (ss z) (blend z).1 (blend z).2 (vs (z.drop j).reverse) (ss (z.drop j).reverse) (List.replicate (z.length - j) (z.getD 0 (0, 0)).2) lo hi ((j : Int) - 1)) true := by
      intro j
      induction j with
      | zero =>
        intro lo hi hj hb hlo hhi
        have eb := blend_impl (vs z.reverse) (ss z.reverse) (by rw [len_vs]; simp; omega) (by rw [len_ss]; simp; omega)
        have ez : (vs z.reverse).zip (ss z.reverse) = z.reverse := by
          unfold vs ss
          exact (List.zip_of_prod rfl rfl).symm
        have ev : bl (vs z.reverse) (ss z.reverse) = blend z := by
          unfold bl
          rw [if_pos (okB_of (okZ_rev hz)), ez, blend_rev]
        rw [ev] at eb
        have ha := okZ_alike hz _ hs0
        have eo := blend_impl (vs (alike z (z.getD 0 (0, 0)).2)) (ss (alike z (z.getD 0 (0, 0)).2)) (by rw [len_vs, alike]; simp; omega) (by rw [len_ss, alike]; simp; omega)
        have eza : (vs (alike z (z.getD 0 (0, 0)).2)).zip (ss (alike z (z.getD 0 (0, 0)).2)) = alike z (z.getD 0 (0, 0)).2 := by
          unfold vs ss
          exact (List.zip_of_prod rfl rfl).symm
        have eva : bl (vs (alike z (z.getD 0 (0, 0)).2)) (ss (alike z (z.getD 0 (0, 0)).2)) = blend (alike z (z.getD 0 (0, 0)).2) := by
          unfold bl
          rw [if_pos (okB_of ha), eza]
        rw [eva, vs_alike, ss_alike] at eo
        have hda := blend_den ha
        have me := mean_eq hz _ hs0
        have hall : ∀ p ∈ z, lo ≤ p.1 ∧ p.1 ≤ hi := by
          intro p hp
          obtain ⟨i, hi', rfl⟩ := List.mem_iff_getElem.mp hp
          have := hb i (by omega) hi'
          rwa [List.getD_eq_getElem?_getD, List.getElem?_eq_getElem hi'] at this
        have bt := between hz lo hi (fun p hp => (hall p hp).1) (fun p hp => (hall p hp).2)
        have w1 : wrap64 (lo * (blend z).2) = lo * (blend z).2 := by
          have : lo * (blend z).2 ≤ 100000 * (blend z).2 := Int.mul_le_mul_of_nonneg_right (by omega) (by omega)
          have : -100000 * (blend z).2 ≤ lo * (blend z).2 := Int.mul_le_mul_of_nonneg_right (by omega) (by omega)
          exact w64 (by omega) (by omega)
        have w2 : wrap64 (hi * (blend z).2) = hi * (blend z).2 := by
          have : hi * (blend z).2 ≤ 100000 * (blend z).2 := Int.mul_le_mul_of_nonneg_right (by omega) (by omega)
          have : -100000 * (blend z).2 ≤ hi * (blend z).2 := Int.mul_le_mul_of_nonneg_right (by omega) (by omega)
          exact w64 (by omega) (by omega)
        have hsum := sum_ev (vs z) (by rw [len_vs]; omega) (fun a ha => by
          obtain ⟨p, hp, rfl⟩ := List.mem_map.mp ha
          exact hz.v p hp)
        have fin : Ev (fun k => (impl_Blend.f k (vs z.reverse) (ss z.reverse)).bind fun bt604 => ((impl_Blend.f k (vs z) (List.replicate z.length (z.getD 0 (0, 0)).2)).bind fun bt606 => (if bt604.1 = (blend z).1 then (if bt604.2 = (blend z).2 then (if (wrap64 (lo * (blend z).2)) ≤ (blend z).1 then (if (blend z).1 ≤ (wrap64 (hi * (blend z).2)) then ((laws_sum.f k (vs z)).bind fun t608 => (some ((wrap64 (bt606.1 * ((vs z).length : Int))) == (wrap64 (t608 * bt606.2))))) else (some false)) else (some false)) else (some false)) else (some false)))) true := by
          refine Ev.bind eb (Ev.bind eo (evPos rfl (evPos rfl (evPos (by rw [w1]; exact bt.1) (evPos (by rw [w2]; exact bt.2) (Ev.bind hsum ?_))))))
          rw [len_vs, me, show (wrap64 (tot (vs z) * (blend (alike z (z.getD 0 (0, 0)).2)).2) == wrap64 (tot (vs z) * (blend (alike z (z.getD 0 (0, 0)).2)).2)) = true by simp]
          exact Ev.now _
        refine Ev.step (fun k => ?_) fin
        simp only [laws_FnBlended.l0, List.drop_zero, Nat.sub_zero]
        rw [if_neg (by omega)]
      | succ j ih =>
        intro lo hi hj hb hlo hhi
        have hj' : j < z.length := by omega
        have hvj := hz.v _ (mem_getD hj')
        have m1 := mn_le lo (z.getD j (0, 0)).1
        have m2 := mx_ge hi (z.getD j (0, 0)).1
        have next := ih (mn lo (z.getD j (0, 0)).1) (mx hi (z.getD j (0, 0)).1) (by omega) (fun i h1 h2 => by
          by_cases c : i = j
          · subst c; omega
          · have := hb i (by omega) h2; omega) (by omega) (by omega)
        have ed : z.drop j = z.getD j (0, 0) :: z.drop (j + 1) := by
          rw [List.drop_eq_getElem_cons hj', List.getD_eq_getElem?_getD, List.getElem?_eq_getElem hj']; rfl
        rw [ed, show z.length - j = z.length - (j + 1) + 1 by omega, List.replicate_succ'] at next
        have hlen : (vs (z.drop (j + 1)).reverse).length < 17592186044416 := by rw [len_vs]; simp; omega
        have hlen2 : (ss (z.drop (j + 1)).reverse).length < 17592186044416 := by rw [len_ss]; simp; omega
        have hlen3 : (List.replicate (z.length - (j + 1)) (z.getD 0 (0, 0)).2).length < 17592186044416 := by simp; omega
        refine Ev.step (fun k => ?_) next
        simp only [laws_FnBlended.l0]
        rw [show ((j + 1 : Nat) : Int) - 1 = (j : Int) by omega, if_pos (by omega), if_pos (by omega), if_pos (by rw [len_vs]; omega), if_pos hlen, if_pos (by rw [len_ss]; omega), if_pos hlen2, if_pos (by rw [len_ss]; omega), if_pos hlen3, rd_nat, rd_nat, getD_vs, getD_ss, w64 (x := (j : Int) - 1) (by omega) (by omega), show rd (ss z) 0 = (z.getD 0 (0, 0)).2 by rw [← getD_ss]; rfl]
        simp only [vs, ss, List.reverse_cons, List.map_append, List.map_cons, List.map_nil]
    have := main z.length (rd (vs z) 0) (rd (vs z) 0) (by omega) (fun i h1 h2 => by omega) (by rw [show rd (vs z) 0 = (z.getD 0 (0, 0)).1 by rw [← getD_vs]; rfl]; exact hv0) (by rw [show rd (vs z) 0 = (z.getD 0 (0, 0)).1 by rw [← getD_vs]; rfl]; exact hv0)
    rw [List.drop_length, Nat.sub_self] at this
    rw [len_vs, w64 (x := (z.length : Int) - 1) (by omega) (by omega)]
    exact this
  · have hbl : bl v s = (0, 0) := by simp [bl, ok]
    rw [hbl]
    exact evPos rfl (Ev.now _)

end Go.Proofs.Yteobnbichpadjaa.Pure
