/- Residues, powers and sums of the two spectra: plain statements; for rows of 1, 2, 4, .., 64 residues. -/
import Derived.Test.YteobnbichpadjabI64
import Derived.Test.YteobnbichpadjabQx1
import Derived.Test.YteobnbichpadjabQx10
import Derived.Test.YteobnbichpadjabQx17
import Derived.Test.YteobnbichpadjabQx19
import Derived.Test.YteobnbichpadjabQx21
import Derived.Test.YteobnbichpadjabQx22
set_option linter.unusedVariables false
set_option linter.unusedSimpArgs false
namespace Go.Proofs.Yteobnbichpadjab.Gen
open Go.RowKit Go.Proofs.Yteobnbichpadjab.Q Go.Proofs.YteobnbichpadjabW.PrintWords Go.Proofs.YteobnbichpadjabW.PrintMore

theorem l2In_eq (a b c : Int) : spec_l2In.f a b c = some (decide (b ≤ a) && decide (a ≤ c)) := by
  unfold spec_l2In.f; by_cases h : a ≥ b <;> simp [h, show b ≤ a ↔ a ≥ b from Iff.rfl]
theorem in_eq (a b c : Int) : impl_in.f a b c = some (decide (b ≤ a) && decide (a ≤ c)) := by
  unfold impl_in.f; by_cases h : a ≥ b <;> simp [h, show b ≤ a ↔ a ≥ b from Iff.rfl]

theorem l15All_ev (l : List Int) (lo hi : Int) (h : l.length ≤ 1099511627776) : Ev (fun k => spec_l15All.f k l (l.length : Int) lo hi) (allIn l lo hi) := by
  simp only [spec_l15All.f]
  refine evPos (by trivial) ?_
  have := scan (fun k i => spec_l15All.l0 k l lo hi i) l.length (fun j => (l.drop j).all fun x => decide (lo ≤ x) && decide (x ≤ hi)) ?_ ?_ 0 (by omega)
  · simpa [allIn] using this
  · intro j hj
    simp only [all_drop l _ 0 j hj]
    by_cases hb : (decide (lo ≤ l.getD j 0) && decide (l.getD j 0 ≤ hi)) = true
    · refine .inl ⟨by rw [hb, Bool.true_and], 0, fun k _ => ?_⟩
      simp only [spec_l15All.l0]
      rw [if_pos (by omega), if_pos (by omega), rd_nat, l2In_eq, hb, up1 (by omega)]
      rfl
    · rw [Bool.not_eq_true] at hb
      refine .inr (Ev_succ fun k => ?_)
      simp only [spec_l15All.l0]
      rw [if_pos (by omega), if_pos (by omega), rd_nat, l2In_eq, hb]
      rfl
  · refine Ev_succ fun k => ?_
    simp only [spec_l15All.l0]
    rw [if_neg (by omega)]
    simp

theorem each_ev (l : List Int) (lo hi : Int) (h : l.length ≤ 1099511627776) : Ev (fun k => impl_each.f k l (l.length : Int) lo hi) (allIn l lo hi) := by
  simp only [impl_each.f]
  refine evPos (by trivial) ?_
  have := scan (fun k i => impl_each.l0 k lo hi l (l.length : Int) i) l.length (fun j => (l.drop j).all fun x => decide (lo ≤ x) && decide (x ≤ hi)) ?_ ?_ 0 (by omega)
  · simpa [allIn] using this
  · intro j hj
    simp only [all_drop l _ 0 j hj]
    by_cases hb : (decide (lo ≤ l.getD j 0) && decide (l.getD j 0 ≤ hi)) = true
    · refine .inl ⟨by rw [hb, Bool.true_and], 0, fun k _ => ?_⟩
      simp only [impl_each.l0]
      rw [if_pos (by omega), if_pos (by omega), if_pos (by omega), rd_nat, in_eq, hb, up1 (by omega)]
      rfl
    · rw [Bool.not_eq_true] at hb
      refine .inr (Ev_succ fun k => ?_)
      simp only [impl_each.l0]
      rw [if_pos (by omega), if_pos (by omega), if_pos (by omega), rd_nat, in_eq, hb]
      rfl
  · refine Ev_succ fun k => ?_
    simp only [impl_each.l0]
    rw [if_neg (by omega)]
    simp

/-- A row of residues. -/
def rowOk (l : List Int) : Bool := decide (1 ≤ l.length) && decide (l.length ≤ 64) && decide (Go.bits .and .i64 (l.length : Int) (wrap64 ((l.length : Int) - 1)) = 0) && allIn l 0 65536

theorem rowOk_spec (l : List Int) (h : l.length ≤ 1099511627776) : Ev (fun k => spec_l16RowOk.f k l) (rowOk l) := by
  simp only [spec_l16RowOk.f]
  by_cases h1 : (l.length : Int) < 1
  · refine evPos h1 ?_
    rw [show rowOk l = false by simp [rowOk, show ¬ 1 ≤ l.length by omega]]
    exact Ev.now _
  refine evNeg h1 ?_
  by_cases h2 : (l.length : Int) > 64
  · refine evPos h2 ?_
    rw [show rowOk l = false by simp [rowOk, show ¬ l.length ≤ 64 by omega]]
    exact Ev.now _
  refine evNeg h2 ?_
  by_cases h3 : Go.bits .and .i64 (l.length : Int) (wrap64 ((l.length : Int) - 1)) = 0
  · refine evPos h3 (Ev.bind (l15All_ev l 0 65536 h) ?_)
    rw [show rowOk l = allIn l 0 65536 by simp only [rowOk, h3, show 1 ≤ l.length by omega, show l.length ≤ 64 by omega, decide_true, Bool.true_and]]
    exact Ev.now _
  · refine evNeg h3 ?_
    rw [show rowOk l = false by simp only [rowOk, h3, decide_false, Bool.and_false, Bool.false_and]]
    exact Ev.now _

theorem rowOk_impl (l : List Int) (h : l.length ≤ 1099511627776) : Ev (fun k => impl_residues.f k l) (rowOk l) := by
  simp only [impl_residues.f]
  by_cases h1 : (l.length : Int) < 1
  · refine evNeg (by omega) ?_
    rw [show rowOk l = false by simp [rowOk, show ¬ 1 ≤ l.length by omega]]
    exact Ev.now _
  refine evPos (by omega) ?_
  by_cases h2 : 64 < (l.length : Int)
  · refine evNeg (by omega) ?_
    rw [show rowOk l = false by simp [rowOk, show ¬ l.length ≤ 64 by omega]]
    exact Ev.now _
  refine evPos (by omega) ?_
  by_cases h3 : Go.bits .and .i64 (l.length : Int) (wrap64 ((l.length : Int) - 1)) = 0
  · refine evPos h3 (Ev.bind (each_ev l 0 65536 h) ?_)
    rw [show rowOk l = allIn l 0 65536 by simp only [rowOk, h3, show 1 ≤ l.length by omega, show l.length ≤ 64 by omega, decide_true, Bool.true_and]]
    exact Ev.now _
  · refine evNeg h3 ?_
    rw [show rowOk l = false by simp only [rowOk, h3, decide_false, Bool.and_false, Bool.false_and]]
    exact Ev.now _

theorem pow2_of (n : Nat) (h1 : 1 ≤ n) (h2 : n ≤ 64) (h3 : Go.bits .and .i64 (n : Int) (wrap64 ((n : Int) - 1)) = 0) : n = 1 ∨ n = 2 ∨ n = 4 ∨ n = 8 ∨ n = 16 ∨ n = 32 ∨ n = 64 := by
  have key : ∀ m : Fin 64, Go.bits .and .i64 ((m.val + 1 : Nat) : Int) (wrap64 (((m.val + 1 : Nat) : Int) - 1)) = 0 → m.val + 1 = 1 ∨ m.val + 1 = 2 ∨ m.val + 1 = 4 ∨ m.val + 1 = 8 ∨ m.val + 1 = 16 ∨ m.val + 1 = 32 ∨ m.val + 1 = 64 := by decide +kernel
  have e : n - 1 + 1 = n := by omega
  have := key ⟨n - 1, by omega⟩
  simp only [e] at this
  exact this h3

theorem rowOk_form {l : List Int} (h : rowOk l = true) : (l.length = 1 ∨ l.length = 2 ∨ l.length = 4 ∨ l.length = 8 ∨ l.length = 16 ∨ l.length = 32 ∨ l.length = 64) ∧ allIn l 0 65536 = true := by
  simp only [rowOk, Bool.and_eq_true, decide_eq_true_eq] at h
  exact ⟨pow2_of _ h.1.1.1 h.1.1.2 h.1.2, h.2⟩

/-! powers -/
theorem bit1 (x : Int) (h0 : 0 ≤ x) (h1 : x < 4611686018427387904) : Go.bits .and .i64 x 1 = x % 2 := by
  have := bits_mask .i64 62 (by decide) (fun n h0 h1 => by rw [IntKind.wrap_i64]; omega) 1 (by decide) x h0 (by omega)
  simpa using this

theorem mulmod {a b : Nat} (ha : a < 65537) (hb : b < 65537) : Int.tmod (wrap64 ((a : Int) * (b : Int))) 65537 = ((a * b % 65537 : Nat) : Int) := by
  have h1 : a * b ≤ 65536 * 65536 := Nat.mul_le_mul (by omega) (by omega)
  have h2 : ((a : Int) * (b : Int)) = ((a * b : Nat) : Int) := by simp
  rw [h2, w64 (by omega) (by omega), Int.tmod_eq_emod_of_nonneg (by omega)]
  simp

theorem powMod_l0 (e : Nat) : ∀ (b r : Nat), b < 65537 → r < 65537 → e < 4611686018427387904 → Ev (fun k => impl_powMod.l0 k (b : Int) (e : Int) (r : Int)) ((r * b ^ e % 65537 : Nat) : Int) := by
  induction e using Nat.strongRecOn with
  | _ e ih =>
    intro b r hb hr he
    by_cases h0 : e = 0
    · subst h0
      refine Ev_succ fun k => ?_
      simp only [impl_powMod.l0]
      rw [if_neg (by omega)]
      simp [Nat.mod_eq_of_lt hr]
    · have hd : e / 2 < e := by omega
      have hpos : (e : Int) > 0 := by omega
      have hcast : (e : Int) / 2 = ((e / 2 : Nat) : Int) := by simp
      by_cases hodd : e % 2 = 1
      · refine Ev.step (f := fun k => impl_powMod.l0 k (((b * b % 65537 : Nat) : Int)) (((e / 2 : Nat) : Int)) (((r * b % 65537 : Nat) : Int))) (fun k => ?_) ?_
        · simp only [impl_powMod.l0]
          rw [if_pos hpos, bit1 _ (by omega) (by omega), if_pos (by omega), mulmod hb hb, mulmod hr hb, hcast]
        · have := ih (e / 2) hd (b * b % 65537) (r * b % 65537) (Nat.mod_lt _ (by decide)) (Nat.mod_lt _ (by decide)) (by omega)
          have e2 : r * b % 65537 * (b * b % 65537) ^ (e / 2) % 65537 = r * b ^ e % 65537 := by
            have he2 : e = 2 * (e / 2) + 1 := by omega
            conv => rhs; rw [he2, Nat.pow_succ, Nat.pow_mul, Nat.pow_two]
            rw [Nat.mul_mod, Nat.pow_mod, Nat.mod_mod, Nat.mod_mod]
            rw [show r * ((b * b) ^ (e / 2) * b) = (r * b) * ((b * b) ^ (e / 2)) by rw [Nat.mul_comm _ b, ← Nat.mul_assoc]]
            rw [Nat.mul_mod (r * b), Nat.pow_mod (b * b)]
          rw [e2] at this
          exact this
      · refine Ev.step (f := fun k => impl_powMod.l0 k (((b * b % 65537 : Nat) : Int)) (((e / 2 : Nat) : Int)) (r : Int)) (fun k => ?_) ?_
        · simp only [impl_powMod.l0]
          rw [if_pos hpos, bit1 _ (by omega) (by omega), if_neg (by omega), mulmod hb hb, hcast]
        · have := ih (e / 2) hd (b * b % 65537) r (Nat.mod_lt _ (by decide)) hr (by omega)
          have e2 : r * (b * b % 65537) ^ (e / 2) % 65537 = r * b ^ e % 65537 := by
            have he2 : e = 2 * (e / 2) := by omega
            conv => rhs; rw [he2, Nat.pow_mul, Nat.pow_two]
            rw [Nat.mul_mod, Nat.pow_mod, Nat.mod_mod, Nat.mul_mod r ((b * b) ^ (e / 2)), Nat.pow_mod (b * b)]
          rw [e2] at this
          exact this

theorem powMod_ev (b e : Nat) (hb : b < 65537) (he : e < 4611686018427387904) : Ev (fun k => impl_powMod.f k (b : Int) (e : Int)) ((b ^ e % 65537 : Nat) : Int) := by
  have := powMod_l0 e b 1 hb (by decide) he
  simp only [Nat.one_mul] at this
  exact this

/-! the sums -/
def pidx (n i k : Nat) : Int := Int.tmod (wrap64 ((i : Int) * (k : Int))) (n : Int)
theorem pidx_eq (n i k : Nat) (hi : i < 64) (hk : k < 64) : pidx n i k = ((i * k % n : Nat) : Int) := by
  have h1 : i * k ≤ 63 * 63 := Nat.mul_le_mul (by omega) (by omega)
  have h2 : ((i : Int) * (k : Int)) = ((i * k : Nat) : Int) := by simp
  rw [pidx, h2, w64 (by omega) (by omega), Int.tmod_eq_emod_of_nonneg (by omega)]
  simp

def partS (row : List Int) (t n k : Nat) : Nat → Int
  | 0 => 0
  | i + 1 => Int.tmod (wrap64 (partS row t n k i + wrap64 (row.getD i 0 * ((t ^ (i * k % n) % 65537 : Nat) : Int)))) 65537
def sums (row : List Int) (t : Nat) : List Int := tab row.length fun k => partS row t row.length k row.length

theorem sums_length (row : List Int) (t : Nat) : (sums row t).length = row.length := by simp [sums, tab_length]


theorem spectrum_ev (row : List Int) (t : Nat) (ht : t < 65537) (hn : row.length ≤ 64) : Ev (fun k => impl_spectrum.f k row (t : Int)) (sums row t) := by
  simp only [impl_spectrum.f]
  refine evPos (by omega) (evPos (by simp; omega) ?_)
  rw [Int.toNat_natCast]
  have hz : ∀ kk i, kk ≤ i → (mixed (sums row t) (List.replicate row.length 0) kk).getD i 0 = 0 := by
    intro kk i h
    by_cases hk : kk ≤ row.length
    · rw [mixed_get_right _ _ _ _ _ h (by rw [sums_length]; exact hk)]
      by_cases hi : i < row.length
      · simp [List.getD_eq_getElem?_getD, hi]
      · simp [List.getD_eq_getElem?_getD, hi]
    · have hl : (mixed (sums row t) (List.replicate row.length 0) kk).length ≤ i := by
        rw [mixed_length _ _ _ (by simp [sums_length])]; rw [sums_length]; omega
      simp [List.getD_eq_getElem?_getD, List.getElem?_eq_none hl]
  have hml : ∀ kk, (mixed (sums row t) (List.replicate row.length 0) kk).length = row.length := fun kk => by rw [mixed_length _ _ _ (by simp [sums_length]), sums_length]
  have key : ∀ d kk, row.length - kk = d → kk ≤ row.length → Ev (fun k => impl_spectrum.l0 k row (t : Int) (row.length : Int) (mixed (sums row t) (List.replicate row.length 0) kk) (kk : Int)) (sums row t) := by
    intro d
    induction d with
    | zero =>
      intro kk h1 h2
      obtain rfl : kk = row.length := by omega
      refine Ev_succ fun k => ?_
      simp only [impl_spectrum.l0]
      rw [if_neg (by omega)]
      have := mixed_all (sums row t) (List.replicate row.length 0) (by simp [sums_length])
      rw [sums_length] at this
      rw [this]
    | succ d ih =>
      intro kk h1 h2
      have hkk : kk < row.length := by omega
      refine Ev.step (f := fun k => impl_spectrum.l1 k row (t : Int) (row.length : Int) (mixed (sums row t) (List.replicate row.length 0) kk) (kk : Int) 0) (fun k => ?_) ?_
      · simp only [impl_spectrum.l0]
        rw [if_pos (by omega)]
      have e0 : mixed (sums row t) (List.replicate row.length 0) kk = (mixed (sums row t) (List.replicate row.length 0) kk).set kk (partS row t row.length kk 0) := by
        apply List.ext_getElem?
        intro i
        rw [List.getElem?_set]
        by_cases hi : kk = i
        · subst hi
          have := hz kk kk (Nat.le_refl _)
          rw [List.getD_eq_getElem?_getD, List.getElem?_eq_getElem (by rw [hml]; exact hkk)] at this
          rw [if_pos rfl, if_pos (by rw [hml]; exact hkk), List.getElem?_eq_getElem (by rw [hml]; exact hkk)]
          exact congrArg some this
        · rw [if_neg hi]
      have hin := count (fun k i (s : List Int) => impl_spectrum.l1 k row (t : Int) (row.length : Int) s (kk : Int) i) row.length (fun i => (mixed (sums row t) (List.replicate row.length 0) kk).set kk (partS row t row.length kk i)) (sums row t) ?_ ?_ 0 (by omega)
      · simp only [← e0] at hin
        exact hin
      · intro i hi
        have hlt : i * kk % row.length < row.length := Nat.mod_lt _ (by omega)
        obtain ⟨K2, hp0⟩ := powMod_ev t (i * kk % row.length) ht (by omega)
        have hp : ∀ k, K2 ≤ k → impl_powMod.f k (t : Int) ((i * kk % row.length : Nat) : Int) = some _ := hp0
        refine ⟨K2, fun k hk => ?_⟩
        simp only [impl_spectrum.l1]
        rw [show Int.tmod (wrap64 ((i : Int) * (kk : Int))) (row.length : Int) = ((i * kk % row.length : Nat) : Int) from pidx_eq row.length i kk (by omega) (by omega)]
        rw [if_pos (by omega), if_pos (by omega), if_pos (by rw [List.length_set, hml]; omega), if_pos (by omega), if_pos (by omega), if_neg (by omega), hp _ hk]
        simp only [Option.bind_some]
        rw [up1 (by omega), Int.toNat_natCast, rd_nat, rd_nat, List.set_set]
        have hg : ((mixed (sums row t) (List.replicate row.length 0) kk).set kk (partS row t row.length kk i)).getD kk 0 = partS row t row.length kk i := by
          rw [List.getD_eq_getElem?_getD, List.getElem?_set_self (by rw [hml]; exact hkk)]; rfl
        rw [hg]
        rfl
      · refine Ev.step (f := fun k => impl_spectrum.l0 k row (t : Int) (row.length : Int) (mixed (sums row t) (List.replicate row.length 0) (kk + 1)) ((kk + 1 : Nat) : Int)) (fun k => ?_) (ih (kk + 1) (by omega) (by omega))
        simp only [impl_spectrum.l1]
        rw [if_neg (by omega), up1 (by omega)]
        have := mixed_set (sums row t) (List.replicate row.length 0) 0 kk (by simp [sums_length]) (by rw [sums_length]; exact hkk)
        rw [← this, sums, tab_get _ _ _ hkk]
  have := key _ 0 rfl (by omega)
  simpa [mixed_zero] using this


theorem turn3_ev (n : Nat) (h : n = 1 ∨ n = 2 ∨ n = 4 ∨ n = 8 ∨ n = 16 ∨ n = 32 ∨ n = 64) : Ev (fun k => impl_powMod.f k 3 ((65536 : Int) / (n : Int))) ((3 ^ (65536 / n) % 65537 : Nat) : Int) := by
  have := powMod_ev 3 (65536 / n) (by decide) (by have := Nat.div_le_self 65536 n; omega)
  simpa using this

end Go.Proofs.Yteobnbichpadjab.Gen
